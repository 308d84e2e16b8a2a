/-
  Parts of the proof: W7 W8 Region W9 Append W10 W11 W12 W14.
-/
import Derived.Test.YtcfchohkmkilpaaGreatDoorLP0
import Derived.Test.YtcfchohkmkilpaaGreatDoorLP1
import Derived.StillTailTactics
import Derived.Shelf.Abstract
import Derived.OrdersHeld
import Derived.Deep.RegionHeld
import Derived.Maps.AppendAt
import Derived.OwnWalk
namespace Go.Proofs.YtcfchohkmkilpaaGreatDoor
set_option maxRecDepth 100000
set_option maxHeartbeats 16000000
section
open Go.RowKit
attribute [local go_sem] Oper.semAt_some
structure At (ts:List Ty) (ps:List Pj) (L pre:List Stp) (k:Nat) (idx err:Int) (rest:List Stp):Prop where
 all:L=pre ++ ⟨k,idx,err⟩ :: rest
 le:k<=ps.length
 good:err=0->0<=idx/\idx<ts.length/\(⟨k,idx,err⟩ :: rest:List Stp)=walkS ts idx k (ps.drop k)
 bad:err≠0->rest=[]
theorem At.next {ts:List Ty} {ls:List Lc} (hok:Okay ts ls) {ps:List Pj} {L pre:List Stp} {k:Nat} {idx:Int} {rest:List Stp} (h:At ts ps L pre k idx 0 rest) (hk:k<ps.length) {t:Ty} (hi:ts[idx.toNat]?=some t):
 ∃rest',At ts ps L (pre ++ [⟨k,idx,0⟩]) (k+1) (prT t ps[k]).1 (prT t ps[k]).2 rest':=by
 obtain ⟨hall,hle,hg,_⟩:=h;obtain ⟨h0,h1,h2⟩:=hg rfl;have hmem:t∈ts:=List.mem_of_getElem? hi;rw [cH hk,walkS,hi] at h2;simp only [List.cons.injEq,true_and] at h2;by_cases he:(prT t ps[k]).2=0
 ·rw [bA he] at h2;have hx:=xBK hok hmem ps[k] he;generalize prT t ps[k]=y at *;obtain ⟨y1,y2⟩:=y;simp only [] at he;subst he;cases hr:rest with
  | nil=>
    rw [hr] at h2;cases hd:ps.drop (k+1) with
    | nil=>rw [hd,walkS] at h2;cases h2
    | cons a r=>rw [hd,walkS] at h2;cases h2
  | cons s r=>
    have hs:s=⟨k+1,y1,0⟩:=by
     rw [hr] at h2;cases hd:ps.drop (k+1) with
     | nil=>rw [hd,walkS] at h2;simp at h2;exact h2.1
     | cons a r=>rw [hd,walkS] at h2;simp at h2;exact h2.1
    subst hs;refine ⟨r,⟨by rw [hall,hr];simp,by omega,fun _=>⟨hx.1,hx.2,by rw [<- hr];exact h2⟩,fun h=>absurd rfl h⟩⟩
 ·rw [aZ he] at h2;exact ⟨[],⟨by rw [hall,h2];simp,by omega,fun h=>absurd h he,fun _=>rfl⟩⟩
theorem sP (ts:List Ty) (i:Int) (k:Nat):∀ps:List Pj,∃rest,walkS ts i k ps=⟨k,i,0⟩ :: rest
 | []=>⟨_,by rw [walkS]⟩
 | _ :: _=>⟨_,by rw [walkS]⟩
theorem blk2 {w:World} {k:Nat} {a b:Value} {t:TypeId} (h:w.heap[k]?=some (.cells #[a,b] t (0,0))):
 w.cell? ⟨k,0,none⟩=some a/\w.cell? ⟨k,1,none⟩=some b/\w.frozen? ⟨k,0,none⟩=false/\w.frozen? ⟨k,1,none⟩=false:=
 ⟨by rw [cell_of_row w _ 0 _ _ _ h];rfl,by rw [cell_of_row w _ 1 _ _ _ h];rfl,by simp [World.frozen?,h],by simp [World.frozen?,h]⟩
theorem fZ {w w':World} {k:Nat} {o:Obj} (hb:Below w.heap.size w w') (h:w.heap[k]?=some o):w'.heap[k]?=some o:=
 (hb.block k (Array.getElem?_eq_some_iff.1 h).1).trans h
theorem sK {w:World} {k:Nat} {a b:Value} {t:TypeId} (x y:Value) (h:w.heap[k]?=some (.cells #[a,b] t (0,0))):
 ((w.setCell ⟨k,0,none⟩ x).setCell ⟨k,1,none⟩ y).heap[k]?=some (.cells #[x,y] t (0,0)):=by
 simp [World.setCell,Array.getElem?_modify,h]
theorem xBC {w:World} {k:Nat} {a b:Value} {t:TypeId} (x:Value) (h:w.heap[k]?=some (.cells #[a,b] t (0,0))):
 (w.setCell ⟨k,0,none⟩ x).heap[k]?=some (.cells #[x,b] t (0,0)):=by
 simp [World.setCell,Array.getElem?_modify,h]
theorem uV {D:Nat} {T:TypeId->Bool} {w:World} {k:Nat} {a b:Value} {t:TypeId} (x y:Value) (h:w.heap[k]?=some (.cells #[a,b] t (0,0))) (hD:D<=k) (hT:T t=true):
 Turn D T w ((w.setCell ⟨k,0,none⟩ x).setCell ⟨k,1,none⟩ y):=
 (Turn.setCell (p:=⟨k,0,none⟩) x h hD hT).trans (Turn.setCell (p:=⟨k,1,none⟩) y (xBC x h) hD hT)
theorem vZ (n:Nat) (hn:1<=n) (ts:List Ty) (ls:List Lc) (l:Int) (ps:List Pj) (A B C:Option Addr) (c d e bp bl bt:Nat) (w0 w:World) (hw:Below w0.heap.size w0 w) (h1:w.cell? ⟨bt,0,none⟩=some (.slice A ts.length c)) (h2:w.cell? ⟨bl,0,none⟩=some (.slice B ls.length d)) (h3:w.cell? ⟨bp,0,none⟩=some (.int .i64 l)) (h4:w.cell? ⟨bp,1,none⟩=some (.slice C ps.length e)) (hts:Slc 5 RTy w0 A c ts) (hls:Slc 2 RLc w0 B d ls) (hps:Slc 2 RPj w0 C e ps) (hok:Okay ts ls) (hgood:chk l ps=0) (j:Nat) (hj:l=j) (hlt:j<ls.length):
 SeqL Fence.wide n Tryz.prog 209 #[.pointer (some ⟨bp,0,none⟩),.pointer (some ⟨bl,0,none⟩),.pointer (some ⟨bt,0,none⟩)] encS T54 (fun k=>k<w0.heap.size\/k=bt\/k=bl\/k=bp) (pth ts ls l ps) w:=by
 intro lp J Jx W hW hJ hJx hY h0
 have hL:pth ts ls l ps=walkS ts ls[j].type 0 ps:=by
  rw [pth,aZ (by simp [hgood]),hj,bV,bD hlt]
 have hty:=hok.loc ls[j] (bM hlt)
 have hfld:=aF (lV ps (by
  unfold chk at hgood;split at hgood
  ·cases hgood
  ·split at hgood
   ·cases hgood
   ·exact hgood))
 obtain ⟨bL,oL,rfl,hbL,r1,r2⟩:=hls.sl.at_ hlt;have r2:=(hw.cell (p:=⟨bL,oL+j * 2+1,none⟩) hbL).trans r2
 have hat0:∃rest,At ts ps (pth ts ls l ps) [] 0 ls[j].type 0 rest:=by
  rw [hL];obtain ⟨rest,hr⟩:=sP ts ls[j].type 0 ps;exact ⟨rest,⟨by rw [hr];rfl,by simp,fun _=>⟨hty.1,hty.2,by rw [bW,hr]⟩,fun h=>absurd rfl h⟩⟩
 generalize ls[j].type=ti at *;have HA0:=aF hat0;generalize pth ts ls l ps=L at *;clear hL hat0 r1;subst hj;have hC:=kQ j C e ps W (hps.keep RPj.keeps (hw.trans (hW.mono hw.size)));rw [hgood] at hC;have HC:=aF hC;have q1:=cO hW h1;have q2:=cO hW h2;have q3:=cO hW h3;have q4:=cO hW h4;have q5:=cO hW r2;have l1:=cD w _ h1;have l3:=cD w _ h3;have hle:=hls.le;have hbig:=hls.big;have hd0:decide (ls.length<=j)=false:=by simpa using hlt
 clear hC hgood hls h2 hty;(refine callsIn_of_wp Tryz.func209 rfl trivial ?_ rfl;simp only [Tryz.ntmps209,List.size_toArray,bK,bO,Nat.reduceAdd,Nat.reduceSub,Array.replicate_succ,Array.replicate_zero,List.push_toArray,List.append_toArray,List.nil_append,List.cons_append]);gi_wp2_with (refine ⟨trivial,?_⟩;gi_at_call 210;refine (callsIn_wide.2 HC.out).mono ?_;rintro e w1 ⟨rfl,hb1⟩;have z2:=cO hb1 q2;have z3:=cO hb1 q3;have z5:=cO hb1 q5;have hb1':=hb1.size)
 gi_wp2
 gi_loopw [7] (fun v wr=>∃(k:Nat) (pre rest:List Stp) (idx err:Int),v = .int .i64 k/\wr.heap[w1.heap.size]?=some (.cells #[.int .i64 idx,.int .i64 err] 244 (0,0))/\wr.heap[bt]?=w.heap[bt]?/\wr.heap[bp]?=w.heap[bp]?/\Below w0.heap.size w0 wr/\J pre wr/\Hid (At ts ps L pre k idx err rest)) (fun v _=>ps.length+1 - (intOf v).toNat)
 case atStart=>
  obtain ⟨rest,hA⟩:=HA0.out;have hwn:w.heap.size<=w1.heap.size:=bX hW.size hb1';have hww:=((hW.trans (hb1.mono hW.size)).alloc hwn (.cells #[.int .i64 ti,.int .i64 0] 244));exact ⟨0,[],rest,ti,0,rfl,heap_alloc_new w1 _,hww.block _ l1,hww.block _ l3,hw.trans (hww.mono hw.size),hJ _ _ _ h0 (Turn.trans (Turn.of_below hb1) (Turn.of_below ((aX _ _).alloc (aY _) _))),aF hA⟩
 case round=>
  obtain ⟨k,pre,rest,idx,err,rfl,hbk,hbt,hbp,hB,hJp,hA⟩:=hrel;have hBs:w.heap.size<=wr.heap.size:=by have:=(Array.getElem?_eq_some_iff.1 hbk).1;have:=hW.size;omega
  obtain ⟨fn,tmps,assign,body,hy,hR⟩:=hY pre ⟨k,idx,err⟩ rest wr hA.out.all hJp;rw [show encS ⟨k,idx,err⟩ = #[.int .i64 (k:Int),.agg #[.int .i64 idx,.int .i64 err]] from rfl] at hy;have c0:wr.cell? ⟨w1.heap.size,0,none⟩=some (.int .i64 idx):=by rw [cell_of_row wr _ 0 _ _ _ hbk];rfl
  have c1:wr.cell? ⟨w1.heap.size,1,none⟩=some (.int .i64 err):=by rw [cell_of_row wr _ 1 _ _ _ hbk];rfl
  gi_wp2
  refine hR.mono ?_;clear hy hR c0 c1;rintro e W3 (⟨rfl,hJ3,hk3⟩ | ⟨rfl,hJx3⟩)
  ·have hbk3:=hk3.same _ _ hb1' hbk rfl;have hB3:=hB.trans (hk3.below (n₀ := w0.heap.size) (fun k hk=> .inl hk) hB.size);have hbt3:=(hk3.low bt (.inr (.inl rfl)) (by omega)).trans hbt;have hbp3:=(hk3.low bp (.inr (.inr (.inr rfl))) (by omega)).trans hbp;have c0:W3.cell? ⟨w1.heap.size,0,none⟩=some (.int .i64 idx):=by rw [cell_of_row W3 _ 0 _ _ _ hbk3];rfl
   have c1:W3.cell? ⟨w1.heap.size,1,none⟩=some (.int .i64 err):=by rw [cell_of_row W3 _ 1 _ _ _ hbk3];rfl
   have y4:=(World.cell?_of_block (a:=⟨bp,1,none⟩) hbp3).trans h4;have hpl:=hps.le;have hpb:=hps.big;have hsz3:=hk3.size;have hwn':w.heap.size<=w1.heap.size:=bX hW.size hb1';have hbtW:bt<W3.heap.size:=by omega
   have hbpW:bp<W3.heap.size:=by omega
   have hbtn:=aF (show bt≠w1.heap.size by omega);have hbpn:=aF (show bp≠w1.heap.size by omega);have hw0n:=aF (show w0.heap.size<=w1.heap.size by have:=hw.size;omega);have hbtH:=aF hbt3;have hbpH:=aF hbp3;clear q1 q2 q3 q4 q5 hB hbk hk3 hJp z2 z3 z5 h0 hbt hbp hbt3 hbp3;by_cases herr:err=0
   ·have e1:(err == 0)=true:=by simp [herr]
    by_cases hk:k<ps.length
    ·have hn0:=(hA.out.good herr).1;have hn1:=(hA.out.good herr).2.1;obtain ⟨ij,rfl⟩:=bG hn0;have hij:ij<ts.length:=(by omega);obtain ⟨bC,oC,rfl,hbC,hrC⟩:=hps.sl.at_ hk;obtain ⟨y5,y6⟩:=RPj.keeps _ _ _ w0.heap.size _ _ _ (aY _) hbC hB3 hrC;have y1:=(World.cell?_of_block (a:=⟨bt,0,none⟩) hbtH.out).trans h1;have HP:=aF (fun (X:World) (hb:Below w0.heap.size w0 X)=>pZ ts ij _ ps[k] A c X (hts.keep RTy.keeps hb) hij rfl (fun _=>hfld.out _ (bM hk)));have HN:=aF (At.next hok (by rw [herr] at hA;exact hA.out) hk (t:=ts[ij]) (by rw [bV];exact bD hij));obtain ⟨rest',hA'⟩:=HN.out;have HA':=aF hA';clear HN hA';have hwn:w.heap.size<=w1.heap.size:=bX hW.size hb1';generalize prT ts[ij] ps[k]=y at *;generalize ps[k]=x at *;subst herr;clear hA hts hps hn0 hrC;gi_wp2
     refine wpIn_wide.2 ?_;go_still_tail 8,(by kernel_rfl)
     change wpList _ _ _ _ _ W3.drew;go_wp2_with (go_at_call 211;refine (HP.out _ hB3.drew).mono ?_;rintro e w4 ⟨rfl,hb4⟩;have hbk4:=fZ hb4 (show W3.drew.heap[w1.heap.size]?=_ from hbk3);obtain ⟨v0,v1,v2,v3⟩:=blk2 hbk4)
     gi_wp2
     go_roundw
     case rel=>exact ⟨k+1,pre ++ [⟨k,ij,0⟩],rest',y.1,y.2,by go_num,sK _ _ hbk4,(((bH _ _ _ bt hbtn.out).trans (bH _ _ _ bt hbtn.out)).trans (hb4.block bt hbtW)).trans hbtH.out,(((bH _ _ _ bp hbpn.out).trans (bH _ _ _ bp hbpn.out)).trans (hb4.block bp hbpW)).trans hbpH.out,((hB3.drew.trans (hb4.mono hB3.drew.size)).setCell (p:=⟨w1.heap.size,0,none⟩) hw0n.out _).setCell (p:=⟨w1.heap.size,1,none⟩) hw0n.out _,hJ _ _ _ hJ3 ((Turn.of_below (A:=W3) ⟨hb4.os,hb4.tape,hb4.output,hb4.size,hb4.block⟩).trans (uV _ _ hbk4 hb1' rfl)),HA'⟩
     case measure=>simp [intOf];omega
    ·have hrest:Hid (L=pre ++ [⟨k,idx,err⟩]):=aF (by
      obtain ⟨a1,a2,a3,a4⟩:=hA.out;obtain ⟨_,_,a5⟩:=a3 herr;rw [bE (by omega),walkS] at a5
      rw [a1,a5,herr])
     clear hA herr;gi_wp2
     go_end0
     exact ⟨⟨_,rfl⟩,.inl (by rw [hrest.out];exact hJ3)⟩
   ·have e1:(err == 0)=false:=by simp [herr]
    have hrest:Hid (L=pre ++ [⟨k,idx,err⟩]):=aF (by rw [hA.out.all,hA.out.bad herr]);clear hA herr;gi_wp2
    go_end0
    exact ⟨⟨_,rfl⟩,.inl (by rw [hrest.out];exact hJ3)⟩
  ·gi_wp2
   go_end0
   exact ⟨⟨_,rfl⟩,.inr ⟨pre,_,rest,hA.out.all,hJx3⟩⟩
end
section
open Go.RowKit Go.Shelf
attribute [local go_sem] Oper.semAt_some
theorem rK (n:Nat) (hn:1<=n) (ts:List Ty) (ls:List Lc) (l:Int) (ps:List Pj) (A B C:Option Addr) (c d e bp bl bt:Nat) (w0 w:World) (hw:Below w0.heap.size w0 w) (h1:w.cell? ⟨bt,0,none⟩=some (.slice A ts.length c)) (h2:w.cell? ⟨bl,0,none⟩=some (.slice B ls.length d)) (h3:w.cell? ⟨bp,0,none⟩=some (.int .i64 l)) (h4:w.cell? ⟨bp,1,none⟩=some (.slice C ps.length e)) (hts:Slc 5 RTy w0 A c ts) (hls:Slc 2 RLc w0 B d ls) (hps:Slc 2 RPj w0 C e ps) (hok:Okay ts ls):
 SeqL Fence.wide n Tryz.prog 209 #[.pointer (some ⟨bp,0,none⟩),.pointer (some ⟨bl,0,none⟩),.pointer (some ⟨bt,0,none⟩)] encS T54 (fun k=>k<w0.heap.size\/k=bt\/k=bl\/k=bp) (pth ts ls l ps) w:=by
 by_cases hg:chk l ps=0
 ·have hl:0<=l:=by
   unfold chk at hg;split at hg
   ·cases hg
   ·omega
  by_cases hlt:l<ls.length
  ·exact vZ n hn ts ls l ps A B C c d e bp bl bt w0 w hw h1 h2 h3 h4 hts hls hps hok hg l.toNat (by omega) (by omega)
  ·exact wA n hn ts ls l ps A B C c d e bp bl bt w0 w hw h1 h2 h3 h4 hts hls hps hok hg (by omega)
 ·exact wB n hn ts ls l ps A B C c d e bp bl bt w0 w hw h1 h2 h3 h4 hts hls hps hok hg
theorem below_put {n:Nat} {w W:World} {D:Nat} {o:Obj} (h:Below n w W) (hD:n<=D):Below n w (W.putObj D o):=
 h.trans ⟨rfl,rfl,rfl,by simp,fun k hk=>World.putObj_heap_other (by omega)⟩
def lastS (l:List Stp):Int × Int:=match l.getLast? with
 | none=>(0,0)
 | some s=>(s.idx,s.err)
theorem uD (l:List Stp) (s:Stp):lastS (l ++ [s])=(s.idx,s.err):=by simp [lastS]
def tyOf (ts:List Ty) (ls:List Lc) (l:Int) (ps:List Pj):Int × Int:=lastS (pth ts ls l ps)
theorem sW (ts:List Ty) (ls:List Lc) (l:Int) (ps:List Pj) (A B C:Option Addr) (c d e:Nat) (w:World) (hts:Slc 5 RTy w A c ts) (hls:Slc 2 RLc w B d ls) (hps:Slc 2 RPj w C e ps) (hok:Okay ts ls):
 Calls Tryz.prog 155 #[.slice A ts.length c,.slice B ls.length d,.agg #[.int .i64 l,.slice C ps.length e]] w fun e' w'=>e' = .returned (.tuple #[.int .i64 (tyOf ts ls l ps).1,.int .i64 (tyOf ts ls l ps).2])/\Below w.heap.size w w':=by
 refine (callsIn_wide (n:=5)).1 ?_;refine callsIn_of_wp_marks Tryz.func155 rfl trivial ?_ rfl;simp only [Tryz.ntmps155,List.size_toArray,bK,bO,Nat.reduceAdd,Nat.reduceSub,Array.replicate_succ,Array.replicate_zero,List.push_toArray,List.append_toArray,List.nil_append,List.cons_append];gi_wp2_with (refine ⟨trivial,?_⟩;gi_at_call 196;refine (callsIn_wide.2 (rL _ _ _ _ _ _ _ _ _ _ _)).mono ?_;rintro e' w' ⟨rfl,rfl⟩)
 obtain ⟨W0,hW0⟩:∃W0,((((w.alloc (.cells #[.int .i64 l,.slice C ps.length e] 51)).alloc (.cells #[.int .i64 0,.int .i64 0] 244)).alloc (.cells #[.slice A ts.length c] 24)).alloc (.cells #[.slice B ls.length d] 25)).alloc (.cells #[.int .i64 l,.slice C ps.length e] 51)=W0:=⟨_,rfl⟩;rw [hW0];have hB0:Below w.heap.size w W0:=by rw [<- hW0];exact aH
 have hz0:W0.heap.size=w.heap.size+1+1+1+1+1:=by subst hW0;simp
 have z1:W0.heap[w.heap.size+1]?=some (.cells #[.int .i64 0,.int .i64 0] 244 (0,0)):=by
  subst hW0;rw [Below.heap_alloc _ _ _ (by simp),Below.heap_alloc _ _ _ (by simp),Below.heap_alloc _ _ _ (by simp)];have:=heap_alloc_new (w.alloc (.cells #[.int .i64 l,.slice C ps.length e] 51)) (.cells #[.int .i64 0,.int .i64 0] 244);rwa [bI] at this
 have z2:W0.cell? ⟨w.heap.size+1+1,0,none⟩=some (.slice A ts.length c):=by subst hW0;go_simp
 have z3:W0.cell? ⟨w.heap.size+1+1+1,0,none⟩=some (.slice B ls.length d):=by subst hW0;go_simp
 have z4:W0.cell? ⟨w.heap.size+1+1+1+1,0,none⟩=some (.int .i64 l):=by subst hW0;go_simp
 have z5:W0.cell? ⟨w.heap.size+1+1+1+1,1,none⟩=some (.slice C ps.length e):=by subst hW0;go_simp
 have hseq:=rK (5 - 1) (by omega) ts ls l ps A B C c d e _ _ _ w W0 hB0 z2 z3 z4 z5 hts hls hps hok;clear hW0 z2 z3 z4 z5 hts hls hps hok
 refine iV rfl (by omega) (gf:=209) (lb:= #[.pointer (some ⟨w.heap.size+1+1+1+1,0,none⟩),.pointer (some ⟨w.heap.size+1+1+1,0,none⟩),.pointer (some ⟨w.heap.size+1+1,0,none⟩)]) rfl trivial (enters_of Tryz.func209 (by kernel_rfl) rfl)
  hseq (aX _ _) (by intro k hk;omega) (fun _=>rfl)
  (fun pre W=>W.heap[w.heap.size+1]?=some (.cells #[.int .i64 (lastS pre).1,.int .i64 (lastS pre).2] 244 (0,0))/\Below w.heap.size w W)
  (fun _ _ _=>False)
  (fun s A B hs ht=>⟨ht.block_low (by omega) hs.1,ht.below (by omega) (by have:=hs.2.size;omega) hs.2⟩) (fun _ _ _ _ hs _=>hs)
  ⟨z1,hB0⟩ ?round ?done ?stop
 case round=>
  rintro lr pre x post W hL hlr ⟨r,hr⟩ hWs ⟨hb,hB⟩;clear z1;simp only [encS,List.zip_toArray,List.zip_cons_cons];gi_wp2
  refine ⟨(Kb.refl _ _ _ _).alloc _,fun W2 hrec=>?_⟩;have hb2:=hrec.cells ((Below.heap_alloc W (.cells #[.int .i64 x.idx,.int .i64 x.err] 244) _ (Array.getElem?_eq_some_iff.1 hb).1).trans hb);have hn2:=hrec.cells (heap_alloc_new W (.cells #[.int .i64 x.idx,.int .i64 x.err] 244));obtain ⟨v0,v1,v2,v3⟩:=blk2 hb2;obtain ⟨y0,y1,y2,y3⟩:=blk2 hn2;have hB2:Below w.heap.size w W2:=(hB.alloc hB.size (.cells #[.int .i64 x.idx,.int .i64 x.err] 244)).trans ⟨hrec.os,hrec.tape,hrec.output,by rw [hrec.size];exact aY _,fun k hk=>hrec.block k (by omega)⟩;gi_wp2
  exact ⟨((Kb.refl _ _ _ _).setLow (p:=⟨w.heap.size+1,0,none⟩) _ (by simp) (by simp;omega)).setLow (p:=⟨w.heap.size+1,1,none⟩) _ (by simp) (by simp;omega),by rw [uD];exact sK _ _ hb2,(hB2.setCell (p:=⟨w.heap.size+1,0,none⟩) (by simp) _).setCell (p:=⟨w.heap.size+1,1,none⟩) (by simp) _⟩
 case done=>
  rintro D W hD ⟨hb,hB⟩ hK;obtain ⟨v0,v1,v2,v3⟩:=blk2 hb;gi_wp2
  refine wpIn_wide.2 ?_;go_quiet (fail)
  gi_wp2
  refine ⟨by simp,.inl ⟨_,_,rfl,run_takeDeferred (w:=W.drewN _) hK,?_⟩⟩;exact ⟨_,results_tmp2 rfl _ _ _,rfl,below_put (aG hB _) (by omega)⟩
 case stop=>exact fun _ _ _ _ _ _ _ _ h=>h.elim
end
section
open Go.RowKit
section
variable {P:Program} {ops:Array Oper} {Q:Exit->Act->World->Prop} {md:Region.Mode} {S:World->Prop} {t:Nat}
def wpAnyM (P:Program) (md:Region.Mode) (ops:Array Oper) (Q:Exit->Act->World->Prop) (S:World->Prop) (t:Nat):Nat->Array Bool->Act->World->Prop
 | 0,listed,a,w=>Region.ready md ops listed=[]/\Q .normal a w
 | fuel+1,listed,a,w=>
   (Region.ready md ops listed=[]->Q .normal a w)/\
   ∀i∈Region.ready md ops listed,wpOp P ops Q i (fun a' w'=>(i<t->S w')/\wpAnyM P md ops Q S t fuel (listed.setIfInBounds i true) a' w') a w
theorem iW:∀(fuel:Nat) (listed:Array Bool) (a:Act) (w:World),wpAnyM P md ops Q S t fuel listed a w->wpAny P md ops Q fuel listed a w
 | 0,_,_,_,h=>h
 | fuel+1,_,_,_,h=>⟨h.1,fun i hi=>wpOp_mono (fun a' w' h'=>iW fuel _ a' w' h'.2) (h.2 i hi)⟩
theorem mW {i:Nat} {oi:Oper} {v:Value} (hi:ops[i]?=some oi) (hsel:∀(j:Nat) (o:Oper) cs b,ops[j]?=some o->o.op ≠ .select cs b)
 (hQ:∀c a w,Q (.panic c) (a.put oi.dst v) w->Q (.panic c) a w):
 ∀(fuel:Nat) (listed:Array Bool) (a:Act) (w:World),
  (∀j oj,ops[j]?=some oj->j≠i->listed.getD j true=false->(∀e∈oj.after,Region.binds md e=true->e.on≠i)->oi.apart ops oj=true/\j<t)->
  i∈Region.ready md ops listed->YieldsIf P ops S oi v a->S w->
  wpAnyM P md ops Q S t fuel (listed.setIfInBounds i true) (a.put oi.dst v) w->wpAnyM P md ops Q S t (fuel+1) listed a w:=by
 intro fuel;induction fuel with
 | zero=>
   intro listed a w _ hr hy hS H;refine ⟨fun h=>(by rw [h] at hr;cases hr),fun j hj=>?_⟩;by_cases hji:j=i
   ·subst hji;exact hy.wpOp hi hS ⟨fun _=>hS,H⟩
   ·have:=ready_mono hj hji;rw [H.1] at this;cases this
 | succ fuel ih=>
   intro listed a w hfree hr hy hS H;refine ⟨fun h=>(by rw [h] at hr;cases hr),fun j hj=>?_⟩;by_cases hji:j=i
   ·subst hji;exact hy.wpOp hi hS ⟨fun _=>hS,H⟩
   ·have h1:=H.2 j (ready_mono hj hji);obtain ⟨hjun,oj,hoj,hall⟩:=mem_ready.1 hj
    have hnot:∀e∈oj.after,Region.binds md e=true->e.on≠i:=fun e he hb heq=>by
     have h1:=hall e he hb;have h0:=(mem_ready.1 hr).1;rw [heq] at h1;rcases Nat.lt_or_ge i listed.size with h' | h'
     ·simp [h'] at h0 h1;rw [h0] at h1;cases h1
     ·simp [Array.getElem?_eq_none h'] at h1
    have h2:=wpOp_putIf hoj (hfree j oj hoj hji hjun hnot).1 (fun cs b=>hsel i oi cs b hi) (fun cs b=>hsel j oj cs b hoj) hQ hy h1;have hjt:=(hfree j oj hoj hji hjun hnot).2
    have hfree':∀k ok,ops[k]?=some ok->k≠i->(listed.setIfInBounds j true).getD k true=false->
     (∀e∈ok.after,Region.binds md e=true->e.on≠i)->oi.apart ops ok=true/\k<t:=fun k ok hk hki hun hno=>by
     refine hfree k ok hk hki ?_ hno;by_cases hjk:j=k
     ·subst hjk;exact hjun
     ·rw [getD_set_ne true hjk] at hun;exact hun
    refine wpOp_mono (fun a' w' h3=>⟨h3.2.1,ih (listed.setIfInBounds j true) a' w' hfree' (ready_mono hr (Ne.symm hji)) h3.1 (h3.2.1 hjt) ?_⟩) h2;rw [Array.setIfInBounds_comm _ _ hji];exact h3.2.2
def lateB (md:Region.Mode) (ops:Array Oper) (t:Nat) (listed:Array Bool) (i:Nat):Bool:=
 (List.range ops.size).all fun j=>decide (j<t) || listed.getD j true || match ops[j]? with
   | some oj=>oj.after.any (fun e=>Region.binds md e && e.on == i)
   | none=>true
theorem cW {i:Nat} {oi:Oper} {v:Value} {fuel:Nat} {listed:Array Bool} {a:Act} {w:World} (hi:ops[i]?=some oi)
 (hs:Region.noSelect ops=true) (hf:Region.free md ops listed i=true) (hl:lateB md ops t listed i=true) (hr:(Region.ready md ops listed).contains i=true)
 (hQ:∀c a w,Q (.panic c) (a.put oi.dst v) w->Q (.panic c) a w) (hy:YieldsIf P ops S oi v a) (hS:S w)
 (h:wpAnyM P md ops Q S t fuel (listed.setIfInBounds i true) (a.put oi.dst v) w):wpAnyM P md ops Q S t (fuel+1) listed a w:=
 mW hi (Region.noSelect_spec hs) hQ fuel listed a w (fun j oj hj hne hun hno=>⟨Region.free_spec hi hf j oj hj hne hun hno,by
  have h1:=List.all_eq_true.1 hl j (List.mem_range.2 (Array.getElem?_eq_some_iff.1 hj).1);simp only [hj,hun,Bool.or_false,Bool.or_eq_true,decide_eq_true_eq] at h1;rcases h1 with h1 | h1
  ·exact h1
  ·obtain ⟨e,he,hb⟩:=Array.any_eq_true'.1 h1;simp only [bP,beq_iff_eq] at hb
   exact absurd hb.2 (hno e he hb.1)⟩) (by simpa using hr) hy hS h
theorem eB {i:Nat} {o:Oper} {fuel:Nat} {listed:Array Bool} {a:Act} {w:World} (hr:Region.ready md ops listed=[i]) (ho:ops[i]?=some o)
 (h:∀K':Act->World->Prop,Shut (∀a w,(i<t->S w)->wpAnyM P md ops Q S t fuel (listed.setIfInBounds i true) a w->K' a w)->if Region.wanted o (yielded ops a.tmps)=true then Oper.wp P o a w K' Q else K' (a.put o.dst undef) w):
 wpAnyM P md ops Q S t (fuel+1) listed a w:=
 ⟨fun h0=>(by rw [hr] at h0;cases h0),fun j hj=>by
   rw [hr,bR] at hj;subst hj
   exact wpOp_step ho (fun K' hK=>h K' (fun a w hS hW=>hK a w ⟨hS,hW⟩))⟩
theorem fC {listed:Array Bool} {a:Act} {w:World} (hr:Region.ready md ops listed=[]) (h:Q .normal a w):∀fuel,wpAnyM P md ops Q S t fuel listed a w
 | 0=>⟨hr,h⟩
 | _+1=>⟨fun _=>h,by rw [hr];simp⟩
theorem fT {id:Nat} {a:Act} {w:World} (hm:P.follows .mixedOrders=true) (h:wpAnyM P .any ops Q S t ops.size (Array.replicate ops.size false) a w.drew):(Code.region id ops true).wp P Q a w:=
 wp_region_any hm (iW _ _ _ _ h)
theorem xCE {id:Nat} {a:Act} {w:World} {r m:Nat} (hm:P.follows .mixedOrders=true) (hnd:kD ops=true) (hout:¬LetsOut Q) (h:wpAnyM P .any ops Q S t ops.size (Array.replicate ops.size false) a w.drew):
 (Code.region id ops true).wpIn (Fence.wide.inRound r) m P Q a w:=
 uP hm hnd hout (iW _ _ _ _ h)
end
end
section
open Go.RowKit Go.Shelf
attribute [local go_sem] Oper.semAt_some
structure TH where
 t:Ty
 A:Option Addr
 c:Nat
def fH (y:TH):List Value:=[.int .i64 y.t.kind,.bool y.t.mu,.int .i64 y.t.reg,.int .i64 y.t.elem,.slice y.A y.t.flds.length y.c]
def GoodH (w:World) (y:TH):Prop:=Sl 1 RInt w w.heap.size y.A y.t.flds/\y.t.flds.length<=y.c/\y.c<=9223372036854775807
theorem GoodH.keep {w w':World} {y:TH} (h:GoodH w y) (hb:Below w.heap.size w w'):GoodH w' y:=⟨h.1.keep RInt.keeps hb.size hb,h.2⟩
theorem rZ {α : Type} {k:Nat} (f : α -> List Value) (hf:∀y,(f y).length=k):∀(ys:List α) (i:Nat) (y : α),ys[i]?=some y->∀j,j<k->(ys.flatMap f)[i * k+j]?=(f y)[j]?
 | [],i,y,h,_,_=>by simp at h
 | z :: zs,0,y,h,j,hj=>by
   simp only [List.getElem?_cons_zero,cI] at h;subst h;rw [List.flatMap_cons,Nat.zero_mul,Nat.zero_add,List.getElem?_append_left (by rw [hf];exact hj)]
 | z :: zs,i+1,y,h,j,hj=>by
   rw [List.getElem?_cons_succ] at h;rw [List.flatMap_cons,List.getElem?_append_right (by rw [hf,Nat.add_mul];omega),hf,show (i+1) * k+j - k=i * k+j by rw [Nat.add_mul];omega];exact rZ f hf zs i y h j hj
theorem gV {W:World} {base:Nat} {e:TypeId} {v:Value} {ys:List TH} (h:W.ownsRow base e 5 v ys.length (ys.flatMap fH)) (hg:∀y∈ys,GoodH W y):
 ∃A c,v = .slice A ys.length c/\Slc 5 RTy W A c (ys.map (·.t)):=by
 rcases h.2 with ⟨rfl,hn⟩ | ⟨g,cap,cur,rfl,hb,hh,hnc,hm,_,_⟩
 ·have:ys=[]:=bU hn;subst this;exact ⟨none,0,rfl,Sl.nil,by simp,by omega⟩
 ·refine ⟨some ⟨g,0,none⟩,cap,rfl,⟨fun _=>⟨g,0,rfl,(Array.getElem?_eq_some_iff.1 hh).1,fun i x hx=>?_⟩,by simpa using hnc,by simp only [maxLen] at hm;omega⟩⟩;rw [cN] at hx;obtain ⟨y,hy,rfl⟩:=Option.map_eq_some_iff.1 hx;have hc:=fun j hj u hu=>h.cells (g:=g) rfl (i * 5+j) u ((rZ fH (fun _=>rfl) ys i y hy j hj).trans hu)
  have hadd:∀n,(⟨g,0,none⟩:Addr).add n=⟨g,n,none⟩:=fun n=>by unfold Addr.add;split <;> simp_all
  simp only [hadd] at hc;have hgd:=hg y (List.mem_of_getElem? hy);refine ⟨?_,?_,?_,?_,y.A,y.c,?_,hgd.2.1,hgd.2.2,hgd.1⟩
  ·simpa using hc 0 (by omega) _ rfl
  ·simpa using hc 1 (by omega) _ rfl
  ·simpa using hc 2 (by omega) _ rfl
  ·simpa using hc 3 (by omega) _ rfl
  ·simpa using hc 4 (by omega) _ rfl
theorem xBN:(Tryz.prog.info? 65).map (fun i=>(i.zero,i.size,i.bytes))=some (some (.agg #[.int .i64 0,.bool false,.int .i64 0,.int .i64 0,.slice none 0 0]),5,56):=by kernel_rfl
def fL (ts:List Ty) (ps:List Pj) (s:Stp):List Ty:=match ps[s.num]? with
 | none=>[]
 | some x=>if x.kind=0 then (match ts[s.idx.toNat]? with | none=>[] | some t=>[t]) else []
def refsL (ts:List Ty) (ps:List Pj) (L:List Stp):List Ty:=L.flatMap (fL ts ps)
theorem jA (ts:List Ty) (ps:List Pj) (L:List Stp) (s:Stp):refsL ts ps (L ++ [s])=refsL ts ps L ++ fL ts ps s:=by simp [refsL]
theorem qS {ts:List Ty} {ls:List Lc} (hok:Okay ts ls):∀(ps:List Pj) (i:Int) (k:Nat),0<=i->i<ts.length->∀s∈walkS ts i k ps,s.err=0->0<=s.idx/\s.idx<ts.length
 | [],i,k,h0,h1,s,hs,_=>by
   rw [walkS,bR] at hs;subst hs;exact ⟨h0,h1⟩
 | x :: r,i,k,h0,h1,s,hs,he=>by
   rw [walkS,cL] at hs;rcases hs with rfl | hs
   ·exact ⟨h0,h1⟩
   ·have hi:i.toNat<ts.length:=(by omega);rw [bD hi] at hs;simp only [] at hs;split at hs
    ·rename_i h2;have h3:=xBK hok (bM hi) x h2;exact qS hok r _ _ h3.1 h3.2 s hs he
    ·rename_i h2;rw [bR] at hs;subst hs;exact absurd he h2
theorem mX (ts:List Ty):∀(ps:List Pj) (i:Int) (k:Nat),(walkS ts i k ps).length<=ps.length+1
 | [],i,k=>by simp [walkS]
 | x :: r,i,k=>by
   rw [walkS,bK,bK];split
   ·simp
   ·split
    ·have:=mX ts r ((prT ‹Ty› x).1) (k+1);omega
    ·simp
theorem xBJ {ts:List Ty} {ls:List Lc} (hok:Okay ts ls) (l:Int) (ps:List Pj):∀s∈pth ts ls l ps,s.err=0->0<=s.idx/\s.idx<ts.length:=by
 intro s hs he;unfold pth at hs;split at hs
 ·rename_i h;rw [bR] at hs;subst hs;exact absurd he h
 ·split at hs
  ·rw [bR] at hs;subst hs;cases he
  ·rename_i x hx;have:=hok.loc x (List.mem_of_getElem? hx);exact qS hok ps _ _ this.1 this.2 s hs he
theorem vY (ts:List Ty) (ls:List Lc) (l:Int) (ps:List Pj):(pth ts ls l ps).length<=33:=by
 unfold pth;split
 ·simp
 ·rename_i h
  have hp:ps.length<=32:=by
   unfold chk at h;split at h
   ·simp at h
   ·split at h
    ·simp at h
    ·omega
  split
  ·simp
  ·have:=mX ts ps (‹Lc› : Lc).type 0;omega
def refsOf (ts:List Ty) (ls:List Lc) (l:Int) (ps:List Pj):List Ty × Bool:=
 if (pth ts ls l ps).any (fun s=>s.err != 0) then ([],false) else (refsL ts ps (pth ts ls l ps),true)
end
section
open Go.RowKit
theorem fM {P:Program} {o:Oper} {a:Act} {w:World} {K:Act->World->Prop} {Q:Exit->Act->World->Prop} (s x:Operand) (t:TypeId)
 (ho:o.op = .call { callee:= .builtin .append,args:= #[s,x],argTypes:= #[t,t] })
 (base:Nat) (e:TypeId) (i:TypeInfo) (z:Value) (size bytes:Nat) (ht:P.underlying t=some (.slice e)) (hi:P.info? e=some i) (hz:i.zero=some z)
 (hsize:i.size=size) (hby:i.bytes=bytes) (hzs:z.cells.size=size) (hsz:0<size)
 (v:Value) (n:Nat) (xs:List Value) (hs:a.eval s=v) (hown:w.ownsRow base e size v n xs)
 (ad:Addr) (m c:Nat) (news:List Value) (hx:a.eval x = .slice (some ad) m c) (hl:news.length=m * size) (hnews:∀j u,news[j]?=some u->w.cell? (ad.add j)=some u) (h1:∀u∈news,u.oneCell'=true)
 (h63:n+m<=maxLen) (hbytes:(n+m) * bytes<=140737488355328) (hbase:base<=w.heap.size)
 (h:∀v' w',w'.ownsRow base e size v' (n+m) (xs ++ news)->w.grownBy w' v.ownBlock->(v'.ownBlock=v.ownBlock\/v'.ownBlock=some w.heap.size)->K (a.put o.dst v') w'):o.wp P a w K Q:=by
 obtain ⟨v',w',hrun,h2,h3,_,h5⟩:=run_append_own_at (P:=P) w base t o.type e i z size bytes ht hi hz hsize hby hzs hsz v n xs hown ad m c news hl hnews h1 h63 hbytes hbase;unfold Oper.wp execOp;simp only [ho,resolve,invoke,builtin,Sem.run_bind,Sem.run_pure,Result.andThen_ok,List.map_toArray,cJ,List.map_nil,hs,hx,hrun];exact h v' w' h2 h3 h5
theorem xBL {w:World} {base:Nat} {e t:TypeId} {size n g:Nat} {v:Value} {xs:List Value} {cs:Array Value} {z:Nat × Nat} (h:w.ownsRow base e size v n xs) (hg:w.heap[g]?=some (.cells cs t z)) (hne:e≠t):some g≠v.ownBlock:=by
 rcases h.2 with ⟨rfl,_⟩ | ⟨g',cap,cur,rfl,_,hh,_⟩
 ·simp [Value.ownBlock]
 ·intro he;have:g=g':=by simpa [Value.ownBlock] using he
  subst this;rw [hh] at hg;injection hg with hg
  injection hg with _ ht
  exact hne ht
theorem dV {w:World} {base:Nat} {e:TypeId} {size n g:Nat} {v:Value} {xs:List Value} (h:w.ownsRow base e size v n xs) (hg:g<base):some g≠v.ownBlock:=fun he=>by
 have:=(h.lt g he.symm).1;omega
end
section
open Go.RowKit Go.Shelf
attribute [local go_sem] Oper.semAt_some
theorem blk1 {w:World} {k:Nat} {a:Value} {t:TypeId} (h:w.heap[k]?=some (.cells #[a] t (0,0))):w.cell? ⟨k,0,none⟩=some a/\w.frozen? ⟨k,0,none⟩=false:=
 ⟨by rw [cell_of_row w _ 0 _ _ _ h];rfl,by simp [World.frozen?,h]⟩
def xZ (w:World) (os:List Obj):World:=os.foldl World.alloc w
theorem uL (os:List Obj):∀(w:World) (k:Nat),k<w.heap.size->(xZ w os).heap[k]?=w.heap[k]?:=by
 induction os with
 | nil=>intro w k _;rfl
 | cons o os ih=>intro w k hk;exact (ih (w.alloc o) k (by simp;omega)).trans (Below.heap_alloc w o k hk)
theorem uM (os:List Obj):∀(w:World) (i:Nat),i<os.length->(xZ w os).heap[w.heap.size+i]?=os[i]?:=by
 induction os with
 | nil=>intro w i h;simp at h
 | cons o os ih=>
   intro w i h;cases i with
   | zero=>exact (uL os (w.alloc o) w.heap.size (by simp)).trans (heap_alloc_new w o)
   | succ i=>
     have:=ih (w.alloc o) i (by simpa using h);rw [bI,Nat.add_assoc,Nat.add_comm 1 i] at this;exact this
theorem iT {w:World} {k:Nat} {a:Value} {t:TypeId} (x:Value) (h:w.heap[k]?=some (.cells #[a] t (0,0))):(w.setCell ⟨k,0,none⟩ x).heap[k]?=some (.cells #[x] t (0,0)):=by
 simp [World.setCell,Array.getElem?_modify,h]
theorem fK {w:World} {k:Nat} {o:Obj} {p:Addr} (u:Value) (h:w.heap[k]?=some o) (hne:k≠p.block):(w.setCell p u).heap[k]?=some o:=(bH w p u k hne).trans h
theorem rG (ts:List Ty) (ps:List Pj) (L:List Stp):(refsL ts ps L).length<=L.length:=by
 induction L with
 | nil=>simp [refsL]
 | cons s L ih=>
   have h1:(fL ts ps s).length<=1:=by
    unfold fL;split
    ·simp
    ·split
     ·split <;> simp
     ·simp
   unfold refsL at *;rw [List.flatMap_cons,bB,bK];omega
structure RefI (ts:List Ty) (ps:List Pj) (A C:Option Addr) (c e b D:Nat) (l:Int) (w:World) (pre:List Stp) (W:World):Prop where
 types:W.heap[b]?=some (.cells #[.slice A ts.length c] 24 (0,0))
 plc:W.heap[b+1]?=some (.cells #[.int .i64 l,.slice C ps.length e] 51 (0,0))
 res:W.heap[b+1+1]?=some (.cells #[.slice none 0 0] 24 (0,0))
 ok:W.heap[b+1+1+1]?=some (.cells #[.bool false] 4 (0,0))
 row:∃(ys:List TH) (v:Value),W.heap[b+1+1+1+1]?=some (.cells #[v] 24 (0,0))/\W.ownsRow D 65 5 v ys.length (ys.flatMap fH)/\(∀y∈ys,GoodH w y)/\ys.map (·.t)=refsL ts ps pre
 good:∀s∈pre,s.err=0
 low:Below w.heap.size w W
theorem RefI.turn {ts:List Ty} {ps:List Pj} {A C:Option Addr} {c e b D:Nat} {l:Int} {w:World} {pre:List Stp} {X Y:World} (h:RefI ts ps A C c e b D l w pre X) (hb:b+5<=D) (hw:w.heap.size<=b) (ht:Turn D T54 X Y):RefI ts ps A C c e b D l w pre Y:=
 ⟨ht.block_low (by omega) h.types,ht.block_low (by omega) h.plc,ht.block_low (by omega) h.res,ht.block_low (by omega) h.ok,
  let ⟨ys,v,h1,h2,h3,h4⟩:=h.row
  ⟨ys,v,ht.block_low (by omega) h1,ht.grownBy (by decide) h2,h3,h4⟩,h.good,ht.below (by omega) (h.low.size) h.low⟩
theorem rF (ts:List Ty) (ls:List Lc) (l:Int) (ps:List Pj) (A B C:Option Addr) (c d e:Nat) (w:World) (hts:Slc 5 RTy w A c ts) (hls:Slc 2 RLc w B d ls) (hps:Slc 2 RPj w C e ps) (hok:Okay ts ls):
 Calls Tryz.prog 187 #[.slice A ts.length c,.slice B ls.length d,.agg #[.int .i64 l,.slice C ps.length e]] w fun e' w'=>∃A' c',e' = .returned (.tuple #[.slice A' (refsOf ts ls l ps).1.length c',.bool (refsOf ts ls l ps).2])/\Slc 5 RTy w' A' c' (refsOf ts ls l ps).1/\Below w.heap.size w w':=by
 refine (callsIn_wide (n:=5)).1 ?_;refine callsIn_of_wp_marks Tryz.func187 rfl trivial ?_ rfl;simp only [Tryz.ntmps187,List.size_toArray,bK,bO,Nat.reduceAdd,Nat.reduceSub,Array.replicate_succ,Array.replicate_zero,List.push_toArray,List.append_toArray,List.nil_append,List.cons_append];gi_wp2_with (refine ⟨trivial,?_⟩;gi_at_call 196;refine (callsIn_wide.2 (rL _ _ _ _ _ _ _ _ _ _ _)).mono ?_;rintro e' w' ⟨rfl,rfl⟩)
 obtain ⟨W0,hW0⟩:∃W0,(((((((w.alloc (.cells #[.slice A ts.length c] 24)).alloc (.cells #[.int .i64 l,.slice C ps.length e] 51)).alloc (.cells #[.slice none 0 0] 24)).alloc (.cells #[.bool false] 4)).alloc (.cells #[.slice none 0 0] 24)).alloc (.cells #[.slice A ts.length c] 24)).alloc (.cells #[.slice B ls.length d] 25)).alloc (.cells #[.int .i64 l,.slice C ps.length e] 51)=W0:=⟨_,rfl⟩;rw [hW0];have hB0:Below w.heap.size w W0:=by rw [<- hW0];exact aH
 have hz0:W0.heap.size=w.heap.size+1+1+1+1+1+1+1+1:=by subst hW0;simp
 have hall:=fun i hi=>(uM [.cells #[.slice A ts.length c] 24,.cells #[.int .i64 l,.slice C ps.length e] 51,.cells #[.slice none 0 0] 24,.cells #[.bool false] 4,.cells #[.slice none 0 0] 24,.cells #[.slice A ts.length c] 24,.cells #[.slice B ls.length d] 25,.cells #[.int .i64 l,.slice C ps.length e] 51] w i hi)
 rw [show xZ w [.cells #[.slice A ts.length c] 24,.cells #[.int .i64 l,.slice C ps.length e] 51,.cells #[.slice none 0 0] 24,.cells #[.bool false] 4,.cells #[.slice none 0 0] 24,.cells #[.slice A ts.length c] 24,.cells #[.slice B ls.length d] 25,.cells #[.int .i64 l,.slice C ps.length e] 51]=W0 from hW0] at hall;have z0:W0.heap[w.heap.size]?=some (.cells #[.slice A ts.length c] 24 (0,0)):=hall 0 (by simp);have z1:W0.heap[w.heap.size+1]?=some (.cells #[.int .i64 l,.slice C ps.length e] 51 (0,0)):=hall 1 (by simp);have z2:W0.heap[w.heap.size+1+1]?=some (.cells #[.slice none 0 0] 24 (0,0)):=hall 2 (by simp);have z3:W0.heap[w.heap.size+1+1+1]?=some (.cells #[.bool false] 4 (0,0)):=hall 3 (by simp);have z4:W0.heap[w.heap.size+1+1+1+1]?=some (.cells #[.slice none 0 0] 24 (0,0)):=hall 4 (by simp);have z5:W0.heap[w.heap.size+1+1+1+1+1]?=some (.cells #[.slice A ts.length c] 24 (0,0)):=hall 5 (by simp);have z6:W0.heap[w.heap.size+1+1+1+1+1+1]?=some (.cells #[.slice B ls.length d] 25 (0,0)):=hall 6 (by simp);have z7:W0.heap[w.heap.size+1+1+1+1+1+1+1]?=some (.cells #[.int .i64 l,.slice C ps.length e] 51 (0,0)):=hall 7 (by simp);have hseq:=rK (5 - 1) (by omega) ts ls l ps A B C c d e _ _ _ w W0 hB0 (blk1 z5).1 (blk1 z6).1 (blk2 z7).1 (blk2 z7).2.1 hts hls hps hok;have hlen:=aF (vY ts ls l ps);have hpok:=aF (xBJ hok l ps);have hI0:RefI ts ps A C c e w.heap.size W0.heap.size l w [] W0:=⟨z0,z1,z2,z3,⟨[],_,z4,World.ownsRow_nil _ _ _ _,by simp,rfl⟩,by simp,hB0⟩;have hpl:=hps.le;have hpb:=hps.big;have htl:=hts.le;have htb:=hts.big;clear hall hW0 z0 z1 z2 z3 z4 z5 z6 z7 hls hok
 refine iV rfl (by omega) (gf:=209) (lb:= #[.pointer (some ⟨w.heap.size+1+1+1+1+1+1+1,0,none⟩),.pointer (some ⟨w.heap.size+1+1+1+1+1+1,0,none⟩),.pointer (some ⟨w.heap.size+1+1+1+1+1,0,none⟩)]) rfl trivial (enters_of Tryz.func209 (by kernel_rfl) rfl)
  hseq (aX _ _) (by intro k hk;omega) (fun _=>rfl)
  (RefI ts ps A C c e w.heap.size W0.heap.size l w)
  (fun co pre W=>co = .ret/\W.heap[w.heap.size+1+1]?=some (.cells #[.slice none 0 0] 24 (0,0))/\W.heap[w.heap.size+1+1+1]?=some (.cells #[.bool false] 4 (0,0))/\Below w.heap.size w W/\∃s∈pre,s.err≠0)
  (fun s X Y hs ht=>hs.turn (by omega) (aY _) ht)
  (fun _ _ X Y hs ht=>⟨hs.1,ht.block_low (by omega) hs.2.1,ht.block_low (by omega) hs.2.2.1,ht.below (by omega) hs.2.2.2.1.size hs.2.2.2.1,hs.2.2.2.2⟩)
  hI0 ?round ?done ?stop
 case round=>
  rintro lr pre x post W hL hlr ⟨r,hr⟩ hWs hI;simp only [encS,List.zip_toArray,List.zip_cons_cons];gi_wp2
  refine ⟨(Kb.refl _ _ _ _).alloc _,fun W2 hrec=>?_⟩;have hn2:=hrec.cells (heap_alloc_new W (.cells #[.int .i64 x.idx,.int .i64 x.err] 244));have hI2:RefI ts ps A C c e w.heap.size W0.heap.size l w pre W2:=hI.turn (by omega) (aY _) ((Turn.of_below ((aX _ _).alloc (aY _) _)).trans (hrec.turn hlr));have hs2:W2.heap.size=W.heap.size+1:=by rw [hrec.size];simp
  clear hI hrec hI0;have HX:=aF hL;clear hL;generalize W.heap.size=bn at *;have hbn:W0.heap.size<=bn:=hWs;clear hr hWs;obtain ⟨q1,q2,q3,q4,⟨ys,v,q5,q6,q7,q8⟩,q9,q10⟩:=hI2;obtain ⟨y0,y1,y2,y3⟩:=blk2 hn2;by_cases herr:x.err=0
  ·have e1:(x.err != 0)=false:=by simp [herr]
   have hgood:Hid (∀s∈pre ++ [x],s.err=0):=aF (fun s hs=>by
    rcases List.mem_append.1 hs with h | h
    ·exact q9 s h
    ·rw [bR] at h;rw [h];exact herr)
   have hidx:=hpok.out x (by rw [HX.out];simp) herr;obtain ⟨p1,_⟩:=blk1 q1;obtain ⟨p2,p3,_,_⟩:=blk2 q2;clear q9;by_cases hk:x.num<ps.length
   ·obtain ⟨bC,oC,rfl,hbC,hrC⟩:=hps.sl.at_ hk;obtain ⟨g1,g2⟩:=RPj.keeps _ _ _ w.heap.size _ _ _ (aY _) hbC q10 hrC;by_cases hkd:ps[x.num].kind=0
    ·have e2:(ps[x.num].kind == 0)=true:=by simp [hkd]
     obtain ⟨xn,xi,xe⟩:=x;simp only [] at *;obtain ⟨ij,rfl⟩:=bG hidx.1;have hij:ij<ts.length:=(by omega);obtain ⟨bT,oT,rfl,hbT,hrT⟩:=hts.sl.at_ hij;obtain ⟨r1,r2,r3,r4,A2,c2,r5,r6,r7,r8⟩:=hrT;have hnewG:GoodH w ⟨ts[ij],A2,c2⟩:=⟨r8,r6,r7⟩;replace r1:=cO q10 r1;replace r2:=cO q10 r2;replace r3:=cO q10 r3;replace r4:=cO q10 r4;replace r5:=cO q10 r5
     have hrefs:Hid (refsL ts ps (pre ++ [⟨xn,ij,xe⟩])=refsL ts ps pre ++ [ts[ij]]):=aF (by
      rw [jA,fL,bD hk]
      simp [hkd,hij])
     generalize ps[xn]=pj at *;generalize ts[ij]=tt at *;clear hkd hps hts herr hidx hrC;obtain ⟨v1,v2⟩:=blk1 q5;have hlb:=dM hbT;gi_wp2
     refine xCE (S:=fun X=>X.cell? ⟨w.heap.size+1+1+1+1,0,none⟩=some v/\X.cell? ⟨w.heap.size,0,none⟩=some (.slice (some ⟨bT,oT,none⟩) ts.length c)/\X.cell? ⟨bn,0,none⟩=some (.int .i64 ij)/\X.cell? ⟨bT,oT+ij * 5,none⟩=some (.int .i64 tt.kind)/\X.cell? ⟨bT,oT+ij * 5+1,none⟩=some (.bool tt.mu)/\X.cell? ⟨bT,oT+ij * 5+2,none⟩=some (.int .i64 tt.reg)/\X.cell? ⟨bT,oT+ij * 5+3,none⟩=some (.int .i64 tt.elem)/\X.cell? ⟨bT,oT+ij * 5+4,none⟩=some (.slice A2 tt.flds.length c2)) (t:=8) (by kernel_rfl) (by kernel_rfl) (by rintro ⟨_,_,hx⟩;exact hx) ?_;have hS:W2.drew.cell? ⟨w.heap.size+1+1+1+1,0,none⟩=some v/\W2.drew.cell? ⟨w.heap.size,0,none⟩=some (.slice (some ⟨bT,oT,none⟩) ts.length c)/\W2.drew.cell? ⟨bn,0,none⟩=some (.int .i64 ij)/\W2.drew.cell? ⟨bT,oT+ij * 5,none⟩=some (.int .i64 tt.kind)/\W2.drew.cell? ⟨bT,oT+ij * 5+1,none⟩=some (.bool tt.mu)/\W2.drew.cell? ⟨bT,oT+ij * 5+2,none⟩=some (.int .i64 tt.reg)/\W2.drew.cell? ⟨bT,oT+ij * 5+3,none⟩=some (.int .i64 tt.elem)/\W2.drew.cell? ⟨bT,oT+ij * 5+4,none⟩=some (.slice A2 tt.flds.length c2):=⟨v1,p1,y0,r1,r2,r3,r4,r5⟩;refine cW (i:=0) (v:=?tv0) rfl (by kernel_rfl) (by kernel_rfl) (by kernel_rfl) (by kernel_rfl) (fun _ _ _ h=>h) (Or.inl ⟨by rfl,?ty0⟩) hS ?tr0
     case ty0=>
      rintro X ⟨s1,s2,s3,s4,s5,s6,s7,s8⟩;simp only [aL];go_simp;rfl
     simp only [aL,Act.put,aK];refine cW (i:=1) (v:=?tv1) rfl (by kernel_rfl) (by kernel_rfl) (by kernel_rfl) (by kernel_rfl) (fun _ _ _ h=>h) (Or.inl ⟨by rfl,?ty1⟩) hS ?tr1
     case ty1=>
      rintro X ⟨s1,s2,s3,s4,s5,s6,s7,s8⟩;simp only [aL];go_simp;rfl
     simp only [aL,Act.put,aK];refine cW (i:=2) (v:=?tv2) rfl (by kernel_rfl) (by kernel_rfl) (by kernel_rfl) (by kernel_rfl) (fun _ _ _ h=>h) (Or.inl ⟨by rfl,?ty2⟩) hS ?tr2
     case ty2=>
      rintro X ⟨s1,s2,s3,s4,s5,s6,s7,s8⟩;simp only [aL];go_simp;rfl
     simp only [aL,Act.put,aK];refine cW (i:=3) (v:=?tv3) rfl (by kernel_rfl) (by kernel_rfl) (by kernel_rfl) (by kernel_rfl) (fun _ _ _ h=>h) (Or.inl ⟨by rfl,?ty3⟩) hS ?tr3
     case ty3=>
      rintro X ⟨s1,s2,s3,s4,s5,s6,s7,s8⟩;simp only [aL];go_simp;rfl
     simp only [aL,Act.put,aK];refine cW (i:=4) (v:=?tv4) rfl (by kernel_rfl) (by kernel_rfl) (by kernel_rfl) (by kernel_rfl) (fun _ _ _ h=>h) (Or.inl ⟨by rfl,?ty4⟩) hS ?tr4
     case ty4=>
      rintro X ⟨s1,s2,s3,s4,s5,s6,s7,s8⟩;simp only [aL];go_simp;rfl
     simp only [aL,Act.put,aK];refine cW (i:=5) (v:=?tv5) rfl (by kernel_rfl) (by kernel_rfl) (by kernel_rfl) (by kernel_rfl) (fun _ _ _ h=>h) (Or.inl ⟨by rfl,?ty5⟩) hS ?tr5
     case ty5=>
      rintro X ⟨s1,s2,s3,s4,s5,s6,s7,s8⟩;simp only [aL];go_simp;rfl
     simp only [aL,Act.put,aK];refine eB (i:=6) (by kernel_rfl) rfl (fun K6 hK6=>?_);simp only [aL];go_simp;have hba:Below W2.heap.size W2 (W2.alloc (.cells #[.int .i64 tt.kind,.bool tt.mu,.int .i64 tt.reg,.int .i64 tt.elem,.slice A2 tt.flds.length c2] 65)).drew:=((aX _ _).alloc (aY _) _).drew;have hnew:(W2.alloc (.cells #[.int .i64 tt.kind,.bool tt.mu,.int .i64 tt.reg,.int .i64 tt.elem,.slice A2 tt.flds.length c2] 65)).drew.heap[W2.heap.size]?=some (.cells #[.int .i64 tt.kind,.bool tt.mu,.int .i64 tt.reg,.int .i64 tt.elem,.slice A2 tt.flds.length c2] 65 (0,0)):=heap_alloc_new W2 _;have hS3:(W2.alloc (.cells #[.int .i64 tt.kind,.bool tt.mu,.int .i64 tt.reg,.int .i64 tt.elem,.slice A2 tt.flds.length c2] 65)).drew.heap.size=W2.heap.size+1:=(by simp);generalize (W2.alloc (.cells #[.int .i64 tt.kind,.bool tt.mu,.int .i64 tt.reg,.int .i64 tt.elem,.slice A2 tt.flds.length c2] 65)).drew=W3 at *;rw [hs2] at hnew;have hrow3:=q6.kept (World.grownBy.mk hba.os hba.tape hba.output hba.size (fun k hk _=>hba.block k hk):W2.grownBy W3 none) (by cases hv:v.ownBlock <;> simp);refine hK6.out _ _ (fun _=>⟨cO hba v1,cO hba p1,cO hba y0,cO hba r1,cO hba r2,cO hba r3,cO hba r4,cO hba r5⟩) ?_;refine eB (i:=7) (by kernel_rfl) rfl (fun K7 hK7=>?_);simp only [aL];rw [bA (by rfl)];obtain ⟨i0,hi0,hz0,hz1,hz2⟩:=info_parts xBN;have hD3:W0.heap.size<=W3.heap.size:=by omega
     have hl33:ys.length+1<=34:=by
      have h1:=hlen.out;rw [HX.out,bB,bK] at h1;have h2:ys.length=(refsL ts ps pre).length:=(by rw [<- q8,cF]);have h3:=rG ts ps pre;omega
     refine fM (.tmp 34) (.tmp 40) 24 rfl W0.heap.size 65 i0 _ 5 56 Tryz.underlying24 hi0 hz0 hz1 hz2 rfl (by omega) v ys.length (ys.flatMap fH) rfl hrow3 ⟨bn+1,0,none⟩ 1 1 (fH ⟨tt,A2,c2⟩) rfl rfl ?_ ?_ (by simp only [maxLen];omega) (by omega) hD3 ?_
     ·intro j u hj;rw [add0,cell_of_row W3 _ j _ _ _ hnew];simpa [fH] using hj
     ·simp [fH,Value.oneCell']
     intro v' W4 hown4 hg4 hat4;obtain ⟨g4,cap4,rfl⟩:=ownsRow_succ hown4;have ne5:=dV hrow3 (show w.heap.size+1+1+1+1<W0.heap.size by omega);have ne0:=dV hrow3 (show w.heap.size<W0.heap.size by omega);have neT:=dV hrow3 (show bT<W0.heap.size by omega);have nen:=xBL hrow3 (fZ hba hn2) (by decide);have k1:=hg4.cell (cO hba v1) ne5;have k2:=hg4.cell (cO hba p1) ne0;have k3:=hg4.cell (cO hba y0) nen;have k4:=hg4.cell (cO hba r1) neT;have k5:=hg4.cell (cO hba r2) neT;have k6:=hg4.cell (cO hba r3) neT;have k7:=hg4.cell (cO hba r4) neT;have k8:=hg4.cell (cO hba r5) neT;refine hK7.out _ _ (fun _=>⟨k1,k2,k3,k4,k5,k6,k7,k8⟩) ?_;refine eB (i:=8) (by kernel_rfl) rfl (fun K8 hK8=>?_);simp only [aL,Act.put,aK];have hz4:W4.heap[w.heap.size+1+1+1+1]?=some (.cells #[v] 24 (0,0)):=(hg4.block _ (by omega) ne5).trans (fZ hba q5);obtain ⟨u1,u2⟩:=blk1 hz4;rw [bA (by rfl)];go_simp;refine hK8.out _ _ (fun h=>absurd h (by decide)) ?_;refine fC (by kernel_rfl) ?_ _;gi_wp2
     have hkb:Kb (fun k=>k<w.heap.size\/k=w.heap.size+1+1+1+1+1\/k=w.heap.size+1+1+1+1+1+1\/k=w.heap.size+1+1+1+1+1+1+1) W0.heap.size T54 W2 W4:=(Kb.of_below hba).grown hg4 (fun k hk=>by
      have h1:=hrow3.lt k hk;refine ⟨.inl (by omega),.inr (.inr ?_)⟩;rcases hrow3.2 with ⟨rfl,_⟩ | ⟨g',cap',cur',rfl,_,hh',_⟩
      ·simp [Value.ownBlock] at hk
      ·have he:g'=k:=(by simpa [Value.ownBlock] using hk);subst he
       exact ⟨_,_,_,hh',rfl⟩)
     refine ⟨hkb.setLow (p:=⟨w.heap.size+1+1+1+1,0,none⟩) _ (by simp;omega) (by simp;omega),?_⟩;have hbe:Below w.heap.size w W4:=q10.trans (hkb.below (n₀ := w.heap.size) (fun k hk=> .inl hk) q10.size);have bq:=fun k (hk:k<w.heap.size+1+1+1+1+1)=>hg4.block k (by omega) (dV hrow3 (show k<W0.heap.size by omega))
     refine ⟨fK _ ((bq _ (by omega)).trans (fZ hba q1)) (by simp;omega),fK _ ((bq _ (by omega)).trans (fZ hba q2)) (by simp),fK _ ((bq _ (by omega)).trans (fZ hba q3)) (by simp),fK _ ((bq _ (by omega)).trans (fZ hba q4)) (by simp),?_,hgood.out,hbe.setCell (p:=⟨w.heap.size+1+1+1+1,0,none⟩) (by simp;omega) _⟩;refine ⟨ys ++ [⟨tt,A2,c2⟩],_,iT _ hz4,?_,?_,?_⟩
     ·rw [bB,cG,cA,List.flatMap_singleton];exact dI hown4 (fun k hk _ _=>bH W4 _ _ k (by simp;omega))
     ·intro y hy;rcases List.mem_append.1 hy with h | h
      ·exact q7 y h
      ·rw [bR] at h;rw [h];exact hnewG
     ·rw [bS,hrefs.out,q8];rfl
    ·have e2:(ps[x.num].kind == 0)=false:=by simp [hkd]
     have hrefs:Hid (refsL ts ps (pre ++ [x])=refsL ts ps pre):=aF (by
      rw [jA,fL,bD hk]
      simp [hkd])
     generalize ps[x.num]=pj at *;clear hkd hps hts herr hidx;gi_wp2
     exact ⟨Kb.refl _ _ _ _,q1,q2,q3,q4,⟨ys,v,q5,q6,q7,by rw [hrefs.out];exact q8⟩,hgood.out,q10⟩
   ·have hd:decide ((x.num:Int)<(ps.length:Int))=false:=by simp;omega
    have hrefs:Hid (refsL ts ps (pre ++ [x])=refsL ts ps pre):=aF (by
     rw [jA,fL,cE (by omega)]
     simp)
    clear hps hts herr hidx;gi_wp2
    exact ⟨Kb.refl _ _ _ _,q1,q2,q3,q4,⟨ys,v,q5,q6,q7,by rw [hrefs.out];exact q8⟩,hgood.out,q10⟩
  ·have e1:(x.err != 0)=true:=by simp [herr]
   have hex:Hid (∃s∈pre ++ [x],s.err≠0):=aF ⟨x,by simp,herr⟩;obtain ⟨v1,v2⟩:=blk1 q3;obtain ⟨v3,v4⟩:=blk1 q4;clear herr;gi_wp2
   exact ⟨((Kb.refl _ _ _ _).setLow (p:=⟨w.heap.size+1+1,0,none⟩) _ (by simp;omega) (by simp;omega)).setLow (p:=⟨w.heap.size+1+1+1,0,none⟩) _ (by simp;omega) (by simp;omega),rfl,
    fK _ (iT _ q3) (by simp),iT _ (fK _ q4 (by simp)),(q10.setCell (p:=⟨w.heap.size+1+1,0,none⟩) (by simp;omega) _).setCell (p:=⟨w.heap.size+1+1+1,0,none⟩) (by simp;omega) _,hex.out⟩
 case done=>
  intro D W hD hI hK;obtain ⟨q1,q2,q3,q4,⟨ys,v,q5,q6,q7,q8⟩,q9,q10⟩:=hI
  have href:Hid (refsOf ts ls l ps=(ys.map (·.t),true)):=aF (by
   rw [refsOf,aZ (by simpa using q9),q8])
  obtain ⟨A',c',rfl,hsl⟩:=gV q6 (fun y hy=>(q7 y hy).keep q10);obtain ⟨p5,_⟩:=blk1 q5;obtain ⟨p3,p3'⟩:=blk1 q3;obtain ⟨p4,p4'⟩:=blk1 q4;have H6:=aF q6;have H7:=aF q7;clear q6 q7;gi_wp2
  have q6:=H6.out;have q7:=H7.out;have hKD:((W.setCell ⟨w.heap.size+1+1,0,none⟩ (.slice A' ys.length c')).setCell ⟨w.heap.size+1+1+1,0,none⟩ (.bool true)).heap[D]?=some (.deferred (some [])):=fK _ (fK _ hK (by simp;omega)) (by simp;omega);have n3:=fK (p:=⟨w.heap.size+1+1+1,0,none⟩) (.bool true) (iT (.slice A' ys.length c') q3) (by simp);have n4:=iT (.bool true) (fK (p:=⟨w.heap.size+1+1,0,none⟩) (.slice A' ys.length c') q4 (by simp));have hbl:Below w.heap.size w ((W.setCell ⟨w.heap.size+1+1,0,none⟩ (.slice A' ys.length c')).setCell ⟨w.heap.size+1+1+1,0,none⟩ (.bool true)):=(q10.setCell (p:=⟨w.heap.size+1+1,0,none⟩) (by simp;omega) _).setCell (p:=⟨w.heap.size+1+1+1,0,none⟩) (by simp;omega) _
  have hown:((W.setCell ⟨w.heap.size+1+1,0,none⟩ (.slice A' ys.length c')).setCell ⟨w.heap.size+1+1+1,0,none⟩ (.bool true)).ownsRow W0.heap.size 65 5 (.slice A' ys.length c') ys.length (ys.flatMap fH):=
   dI (dI q6 (fun k hk _ _=>bH W _ _ k (by simp;omega))) (fun k hk _ _=>bH _ _ _ k (by simp;omega))
  generalize (W.setCell ⟨w.heap.size+1+1,0,none⟩ (.slice A' ys.length c')).setCell ⟨w.heap.size+1+1+1,0,none⟩ (.bool true)=W5 at *;refine ⟨by simp,.inl ⟨_,_,rfl,run_takeDeferred (w:=_) hKD,?_⟩⟩;have hT:Turn D T54 W5 (W5.putObj D (.deferred none)):=Turn.putObj _ hKD (aY _) rfl;have n3':=hT.block_low (by omega) n3;have n4':=hT.block_low (by omega) n4;have hbl':=hT.below (by omega) hbl.size hbl;have hown':=hT.grownBy (by decide) hown;generalize W5.putObj D (.deferred none)=W6 at *;obtain ⟨A3,c3,he3,hsl3⟩:=gV hown' (fun y hy=>(q7 y hy).keep hbl');injection he3 with he3 _ he4
  subst he3 he4;rw [href.out];obtain ⟨m3,_⟩:=blk1 n3';obtain ⟨m4,_⟩:=blk1 n4';refine ⟨.tuple #[.slice A' ys.length c',.bool true],?_,A',c',by simp,hsl3,hbl'⟩;simp [results,Tryz.results187,go_sem,m3,m4]
 case stop=>
  rintro D co pre x post W hD hL ⟨rfl,q3,q4,q10,hex⟩ hK
  have href:Hid (refsOf ts ls l ps=([],false)):=aF (by
   obtain ⟨s,hs,he⟩:=hex;rw [refsOf,bA];rw [List.any_eq_true]
   exact ⟨s,by rw [hL];simp at hs ⊢;rcases hs with h | h <;> simp [h],by simpa using he⟩)
  gi_wp2
  refine ⟨by simp,.inl ⟨_,_,rfl,run_takeDeferred (w:=_) hK,?_⟩⟩;have hT:Turn D T54 W (W.putObj D (.deferred none)):=Turn.putObj _ hK (aY _) rfl;have n3':=hT.block_low (by omega) q3;have n4':=hT.block_low (by omega) q4;have hbl':=hT.below (by omega) q10.size q10;generalize W.putObj D (.deferred none)=W6 at *;rw [href.out];obtain ⟨m3,_⟩:=blk1 n3';obtain ⟨m4,_⟩:=blk1 n4';refine ⟨.tuple #[.slice none 0 0,.bool false],?_,none,0,by simp,⟨Sl.nil,by simp,by omega⟩,hbl'⟩;simp [results,Tryz.results187,go_sem,m3,m4]
end
section
open Go.RowKit Go.Shelf
theorem iZ (ts:List Ty) (ls:List Lc) (l:Int) (ps:List Pj):(refsOf ts ls l ps).1.length<=33:=by
 unfold refsOf;split
 ·simp
 ·have h1:=vY ts ls l ps;have h2:=rG ts ps (pth ts ls l ps);simp only [];omega
theorem oH {w A B C:World} (h1:Below A.heap.size A B) (h2:Below B.heap.size B C) (h0:Below w.heap.size w A):Below w.heap.size w C:=(h0.trans (h1.mono h0.size)).trans (h2.mono (bX h0.size h1.size))
theorem kF (ts:List Ty) (ls:List Lc) (l:Int) (ps:List Pj) (A B C:Option Addr) (c d e:Nat) (w:World) (hts:Slc 5 RTy w A c ts) (hls:Slc 2 RLc w B d ls) (hps:Slc 2 RPj w C e ps) (hok:Okay ts ls):
 Calls Tryz.prog 148 #[.slice A ts.length c,.slice B ls.length d,.agg #[.int .i64 l,.slice C ps.length e]] w fun e' w'=>e' = .returned (.bool ((refsOf ts ls l ps).2 && !(refsOf ts ls l ps).1.any notMu))/\Below w.heap.size w w':=by
 have hR:=aF (rF ts ls l ps A B C c d e (w.alloc (.cells #[.int .i64 l,.slice C ps.length e] 51)) (hts.keep RTy.keeps ((aX _ _).alloc (aY _) _)) (hls.keep RLc.keeps ((aX _ _).alloc (aY _) _)) (hps.keep RPj.keeps ((aX _ _).alloc (aY _) _)) hok);clear hts hls hps hok;generalize refsOf ts ls l ps=q at hR ⊢;obtain ⟨us,ok⟩:=q;go_enter Tryz.func148,Tryz.ntmps148
 go_wp2_with (first
  | (go_at_call 187;refine hR.out.mono ?_;rintro e' w' ⟨A',c',rfl,hs',hb⟩)
  | (go_at_call 188;refine (nV _ _ _ _ hs').mono ?_;rintro e' w2 ⟨rfl,hb2⟩))
 all_goals
  go_ret;first
  | exact ⟨by simp_all,oH hb hb2 ((aX _ _).alloc (aY _) _)⟩
  | exact ⟨by simp_all,oH hb (aX _ _) ((aX _ _).alloc (aY _) _)⟩
theorem dB {W:World} {base:Nat} {e:TypeId} {v:Value} {ys:List Int} (h:W.ownsRow base e 1 v ys.length (ys.map (Value.int .i64))):
 ∃A c,v = .slice A ys.length c/\Slc 1 RInt W A c ys:=by
 rcases h.2 with ⟨rfl,hn⟩ | ⟨g,cap,cur,rfl,hb,hh,hnc,hm,_,_⟩
 ·have:ys=[]:=bU hn;subst this;exact ⟨none,0,rfl,Sl.nil,by simp,by omega⟩
 ·refine ⟨some ⟨g,0,none⟩,cap,rfl,⟨fun _=>⟨g,0,rfl,(Array.getElem?_eq_some_iff.1 hh).1,fun i x hx=>?_⟩,by simpa using hnc,by simp only [maxLen] at hm;omega⟩⟩;have hc:=h.cells (g:=g) rfl i (.int .i64 x) (by rw [cN,hx];rfl);rw [add0] at hc;simpa [RInt] using hc
theorem dU:(Tryz.prog.info? 3).map (fun i=>(i.zero,i.size,i.bytes))=some (some (.int .i64 0),1,8):=by kernel_rfl
theorem pT (ts:List Ty) (ls:List Lc) (l:Int) (ps:List Pj) (A B C:Option Addr) (c d e:Nat) (w:World) (hts:Slc 5 RTy w A c ts) (hls:Slc 2 RLc w B d ls) (hps:Slc 2 RPj w C e ps) (hok:Okay ts ls):
 Calls Tryz.prog 190 #[.slice A ts.length c,.slice B ls.length d,.agg #[.int .i64 l,.slice C ps.length e]] w fun e' w'=>∃A' c',e' = .returned (.slice A' (refsOf ts ls l ps).1.length c')/\Slc 1 RInt w' A' c' ((refsOf ts ls l ps).1.map (·.reg))/\Below w.heap.size w w':=by
 have hR:=aF (rF ts ls l ps A B C c d e (w.alloc (.cells #[.int .i64 l,.slice C ps.length e] 51)) (hts.keep RTy.keeps ((aX _ _).alloc (aY _) _)) (hls.keep RLc.keeps ((aX _ _).alloc (aY _) _)) (hps.keep RPj.keeps ((aX _ _).alloc (aY _) _)) hok);have hlen:=aF (iZ ts ls l ps);clear hts hls hps hok;generalize refsOf ts ls l ps=q at hR hlen ⊢;obtain ⟨us,ok⟩:=q;go_enter Tryz.func190,Tryz.ntmps190
 go_wp2_with (go_at_call 187;refine hR.out.mono ?_;rintro e' w1 ⟨A',c',rfl,hs',hb⟩)
 obtain ⟨i0,hi,hz0,hz1,hz2⟩:=info_parts dU;have hbw:Below w.heap.size w w1:=((aX _ _).alloc (aY _) _).trans (hb.mono (by simp));have hlen:=aF (show us.length<=33 from hlen.out);clear hR hb;have hle:=hs'.le;have hbig:=hs'.big;go_loopw [7,21] (fun v i wr=>∃k:Nat,k<=us.length/\i = .int .i64 k/\wr.ownsRow w1.heap.size 3 1 v k ((us.map (fun t=>Value.int .i64 t.reg)).take k)/\Below w1.heap.size w1 wr) (fun _ i _=>us.length - (intOf i).toNat)
 case atStart=>exact ⟨0,by omega,rfl,World.ownsRow_nil _ _ _ _,aX _ _⟩
 case round=>
  obtain ⟨k,hk,rfl,hown,hB⟩:=hrel;by_cases hlt:k<us.length
  ·have hL:=hlen.out;obtain ⟨bT,oT,rfl,hbT,hrT⟩:=hs'.sl.at_ hlt;obtain ⟨r1,r2,r3,r4,A2,c2,r5,r6,r7,r8⟩:=RTy.keeps _ _ _ w1.heap.size _ _ _ (aY _) hbT hB hrT
   have htk:Hid ((us.map (fun t=>Value.int .i64 t.reg)).take (k+1)=(us.map (fun t=>Value.int .i64 t.reg)).take k ++ [.int .i64 us[k].reg]):=aF (by
    rw [bF (by simpa using hlt)]
    simp)
   generalize us[k]=tt at *;clear hrT r8;have hown2:=(hown.alloc (.cells #[.int .i64 tt.kind,.bool tt.mu,.int .i64 tt.reg,.int .i64 tt.elem,.slice A2 tt.flds.length c2] 65)).alloc (.cells #[.int .i64 tt.reg] 3);have hsz:=hB.size;go_wp2_with (at_builtin;refine wpList_append_own _ rfl _ _ 34 rfl w1.heap.size 3 i0 (.int .i64 0) 1 8 Tryz.underlying34 hi hz0 hz1 hz2 rfl (by decide) _ _ _ rfl hown2 ⟨wr.heap.size+1,0,none⟩ 1 1 [.int .i64 tt.reg] rfl rfl ?c1 ?c2 ?c3 ?c4 ?c5 ?_)
   try (case c1=>
    intro j u hj;match j,hj with
    | 0,hj=>
      simp at hj;subst hj;rw [add0]
      go_simp)
   case c2=>first | rfl | (intro u hu;simp at hu;subst hu;rfl)
   case c3=>unfold maxLen;omega
   case c4=>omega
   case c5=>simp;omega
   intro v' w2 hown' hgrow _;have hown3:w2.ownsRow w1.heap.size 3 1 v' (k+1) ((us.map (fun t=>Value.int .i64 t.reg)).take (k+1)):=by rw [htk.out];exact hown'
   have hB2:Below w1.heap.size w1 w2:=by
    have hx:Below w1.heap.size w1 ((wr.alloc (.cells #[.int .i64 tt.kind,.bool tt.mu,.int .i64 tt.reg,.int .i64 tt.elem,.slice A2 tt.flds.length c2] 65)).alloc (.cells #[.int .i64 tt.reg] 3)):=(hB.alloc hsz _).alloc (by simp;omega) _;exact hx.grown hgrow (by simp;omega) (fun g hg=>(hown2.lt g hg).1)
   clear hown' hgrow hown hown2 hB r1 r2 r3 r4 r5;go_wp2
   go_roundw
   case rel=>exact ⟨k+1,by omega,by simp,hown3,hB2⟩
   case measure=>simp [intOf];omega
  ·have hlt2:¬((k:Int)<(us.length:Int)):=by omega
   have hke:k=us.length:=by omega
   subst hke
   have hown2:wr.ownsRow w1.heap.size 3 1 u7 (us.map (·.reg)).length ((us.map (·.reg)).map (Value.int .i64)):=by
    have h:=hown;rw [List.take_of_length_le (by simp)] at h;rwa [cF,List.map_map]
   obtain ⟨A2,c2,rfl,hsl⟩:=dB hown2;rw [cF] at *;have hsl2:=aF hsl;clear hown hown2 hsl;go_wp2
   go_ret;exact ⟨A2,c2,rfl,hsl2.out,hbw.trans (hB.mono hbw.size)⟩
theorem oG:∀(ps:List Pj) (x:Pj),chkP (ps ++ [x])=if chkP ps=0 then chkP [x] else chkP ps
 | [],x=>by simp [chkP]
 | y :: ps,x=>by
   have ih:=oG ps x;rw [List.cons_append,chkP,chkP,ih];grind
theorem sI {l:Int} {ps:List Pj} {x:Pj} (h:chk l (ps ++ [x])=0):chk l ps=0/\(x.kind=0\/x.kind=1)/\0<=x.field:=by
 unfold chk at *;rw [oG] at h;simp only [bB,cG,chkP] at h;grind
def stepE (ts:List Ty) (q:Int × Int) (x:Pj):Int × Int:=if q.2≠0 then q else match ts[q.1.toNat]? with
 | none=>q
 | some t=>prT t x
theorem fV (ts:List Ty) (i:Int) (k:Nat) (ps:List Pj):walkS ts i k ps≠[]:=by cases ps <;> simp [walkS]
theorem fA {s:Stp} {L:List Stp} (h:L≠[]):lastS (s :: L)=lastS L:=by
 unfold lastS;cases L with
 | nil=>exact absurd rfl h
 | cons a b=>rw [List.getLast?_cons_cons]
theorem kV (ts:List Ty) (x:Pj):∀(ps:List Pj) (i:Int) (k:Nat),lastS (walkS ts i k (ps ++ [x]))=stepE ts (lastS (walkS ts i k ps)) x
 | [],i,k=>by
   rw [List.nil_append,walkS,walkS];cases h:ts[i.toNat]? with
   | none=>simp [lastS,stepE,h]
   | some t=>
     simp only [];by_cases h2:(prT t x).2=0
     ·rw [bA h2];simp only [walkS];simp [lastS,stepE,h];rw [<- h2]
     ·rw [aZ h2];simp [lastS,stepE,h]
 | y :: ps,i,k=>by
   rw [List.cons_append,walkS,walkS];cases h:ts[i.toNat]? with
   | none=>simp [lastS,stepE,h]
   | some t=>
     simp only [];by_cases h2:(prT t y).2=0
     ·rw [bA h2,bA h2,fA (fV _ _ _ _),fA (fV _ _ _ _)];exact kV ts x ps _ _
     ·rw [aZ h2,aZ h2];simp [lastS,stepE,h2]
theorem qV {ts:List Ty} {ls:List Lc} {l:Int} {ps:List Pj} (h:chk l ps≠0):tyOf ts ls l ps=(0,chk l ps):=by
 simp [tyOf,pth,h,lastS]
theorem kP {l:Int} {ps:List Pj} (h:chk l ps=0):0<=l/\ps.length<=32:=by
 unfold chk at h;grind
theorem qU {ts:List Ty} {ls:List Lc} {l:Int} {ps:List Pj} (h:chk l ps=0) (hl:(ls.length:Int)<=l):tyOf ts ls l ps=(0,3):=by
 have:=kP h;simp [tyOf,pth,h,lastS,cE (show ls.length<=l.toNat by omega)]
theorem yL {ts:List Ty} {ls:List Lc} {l:Nat} (h:chk l []=0) (hl:l<ls.length):tyOf ts ls l []=(ls[l].type,0):=by
 simp [tyOf,pth,h,lastS,hl,walkS]
theorem nA {ts:List Ty} {ls:List Lc} {l:Int} {ps:List Pj} {x:Pj} (h:chk l (ps ++ [x])=0) (hl:l<ls.length):tyOf ts ls l (ps ++ [x])=stepE ts (tyOf ts ls l ps) x:=by
 have h0:=(sI h).1;have:=kP h;have h2:ls[l.toNat]?=some ls[l.toNat]:=bD (by omega);simp only [tyOf,pth,h,h0,h2];exact kV ts x ps _ _
theorem xDD {t:Ty} {x:Pj} (h:(prT t x).2≠0):(prT t x).1=0:=by
 unfold prT at *;grind
theorem mY (ts:List Ty):∀(ps:List Pj) (i:Int) (k:Nat),(lastS (walkS ts i k ps)).2≠0->(lastS (walkS ts i k ps)).1=0
 | [],i,k=>by simp [walkS,lastS]
 | y :: ps,i,k=>by
   rw [walkS];cases h:ts[i.toNat]? with
   | none=>simp [lastS]
   | some t=>
     simp only [];by_cases h2:(prT t y).2=0
     ·rw [bA h2,fA (fV _ _ _ _)];exact mY ts ps _ _
     ·rw [aZ h2];intro h3;simpa [lastS] using xDD h2
theorem yM {ts:List Ty} {ls:List Lc} {l:Int} {ps:List Pj} (h:(tyOf ts ls l ps).2≠0):(tyOf ts ls l ps).1=0:=by
 unfold tyOf pth at *;split at h
 ·rename_i h2;rw [bA h2];rfl
 ·rename_i h2;rw [aZ h2] at *;cases hx:ls[l.toNat]? with
  | none=>simp [lastS]
  | some x=>
    rw [hx] at h;exact mY ts ps _ _ h
theorem fW {ts:List Ty} {ls:List Lc} (hok:Okay ts ls) {l:Int} {ps:List Pj} (h:(tyOf ts ls l ps).2=0):0<=(tyOf ts ls l ps).1/\(tyOf ts ls l ps).1<ts.length:=by
 have hp:=xBJ hok l ps;unfold tyOf lastS at *;cases hg:(pth ts ls l ps).getLast? with
 | none=>
   rw [List.getLast?_eq_none_iff] at hg;unfold pth at hg;split at hg
   ·cases hg
   ·split at hg
    ·cases hg
    ·exact absurd hg (fV _ _ _ _)
 | some s=>
   rw [hg] at h;exact hp s (List.mem_of_getLast? hg) h
def refT (ts:List Ty) (i:Int) (x:Pj):List Ty:=if x.kind=0 then ts[i.toNat]?.toList else []
def refsW (ts:List Ty):Int->List Pj->List Ty
 | _,[]=>[]
 | i,x :: r=>refT ts i x ++ match ts[i.toNat]? with
   | none=>[]
   | some t=>refsW ts (prT t x).1 r
theorem tT (ts:List Ty) (pre r:List Pj) (x:Pj) (i e:Int):fL ts (pre ++ x :: r) ⟨pre.length,i,e⟩=refT ts i x:=by
 unfold fL refT;rw [List.getElem?_append_right (aY _),Nat.sub_self,List.getElem?_cons_zero];simp only [];split
 ·cases ts[i.toNat]? <;> rfl
 ·rfl
theorem lF (ts:List Ty):∀(ps pre:List Pj) (i:Int),(lastS (walkS ts i pre.length ps)).2=0->refsL ts (pre ++ ps) (walkS ts i pre.length ps)=refsW ts i ps
 | [],pre,i,_=>by simp [walkS,refsL,fL,refsW]
 | x :: r,pre,i,h=>by
   rw [walkS] at h ⊢;rw [refsL,List.flatMap_cons,tT,refsW];congr 1
   cases ht:ts[i.toNat]? with
   | none=>rfl
   | some t=>
     rw [ht] at h;simp only [] at h ⊢;by_cases h2:(prT t x).2=0
     ·rw [bA h2] at h ⊢;rw [fA (fV _ _ _ _)] at h;have ih:=lF ts r (pre ++ [x]) (prT t x).1 (by simpa using h);simpa [refsL] using ih
     ·rw [aZ h2] at h;exact absurd (by simpa [lastS] using h) h2
theorem lD (ts:List Ty) (x:Pj):∀(qs:List Pj) (i:Int) (k:Nat),(lastS (walkS ts i k qs)).2=0->refsW ts i (qs ++ [x])=refsW ts i qs ++ refT ts (lastS (walkS ts i k qs)).1 x
 | [],i,k,_=>by
   simp only [List.nil_append,refsW,walkS,lastS];cases ts[i.toNat]? <;> simp
 | y :: qs,i,k,h=>by
   rw [List.cons_append,refsW,refsW];rw [walkS] at h ⊢;cases ht:ts[i.toNat]? with
   | none=>simp [lastS,refT,ht]
   | some t=>
     rw [ht] at h;simp only [] at h ⊢;by_cases h2:(prT t y).2=0
     ·rw [bA h2] at h ⊢;rw [fA (fV _ _ _ _)] at h ⊢;rw [lD ts x qs _ _ h,List.append_assoc]
     ·rw [aZ h2] at h;exact absurd (by simpa [lastS] using h) h2
theorem mZ (ts:List Ty):∀(ps:List Pj) (i:Int) (k:Nat),(walkS ts i k ps).any (fun s=>s.err != 0)=((lastS (walkS ts i k ps)).2 != 0)
 | [],i,k=>by simp [walkS,lastS]
 | x :: r,i,k=>by
   rw [walkS,List.any_cons];cases ht:ts[i.toNat]? with
   | none=>simp [lastS]
   | some t=>
     simp only [];by_cases h2:(prT t x).2=0
     ·rw [bA h2,fA (fV _ _ _ _),mZ ts r _ _];simp
     ·rw [aZ h2];simp [lastS]
theorem pY (ts:List Ty) (ls:List Lc) (l:Int) (ps:List Pj):(pth ts ls l ps).any (fun s=>s.err != 0)=((tyOf ts ls l ps).2 != 0):=by
 unfold tyOf pth;split
 ·simp [lastS]
 ·cases ls[l.toNat]? with
  | none=>simp [lastS]
  | some x=>exact mZ ts ps _ _
theorem lE {ts:List Ty} {ls:List Lc} {l:Int} {ps:List Pj} (h:(tyOf ts ls l ps).2≠0):refsOf ts ls l ps=([],false):=by
 rw [refsOf,pY,bA (by simpa using h)]
theorem eL {ts:List Ty} {ls:List Lc} {l:Int} {ps:List Pj} (h:(tyOf ts ls l ps).2=0):chk l ps=0/\0<=l/\l<ls.length:=by
 have hc:chk l ps=0:=by
  apply Classical.byContradiction
  intro hc;rw [qV hc] at h;exact hc h
 refine ⟨hc,(kP hc).1,?_⟩;apply Classical.byContradiction
 intro hl;rw [qU hc (by omega)] at h;cases h
theorem mF {ts:List Ty} {ls:List Lc} {l:Nat} {ps:List Pj} (hc:chk l ps=0) (hl:l<ls.length):pth ts ls l ps=walkS ts ls[l].type 0 ps:=by
 unfold pth;rw [aZ (by simpa using hc),bV,bD hl]
theorem gX {ts:List Ty} {ls:List Lc} {l:Nat} {ps:List Pj} (h:(tyOf ts ls l ps).2=0) (hl:l<ls.length):refsOf ts ls l ps=(refsW ts ls[l].type ps,true):=by
 rw [refsOf,pY,aZ (by simpa using h),mF (eL h).1 hl]
 have:=lF ts ps [] ls[l].type (by
  have h':=h;rw [tyOf,mF (eL h).1 hl] at h'
  exact h')
 rw [List.nil_append] at this;rw [show ([]:List Pj).length=0 from rfl] at this;rw [this]
theorem qT {ts:List Ty} {ls:List Lc} {l:Int} {ps:List Pj} {x:Pj} (h:(tyOf ts ls l (ps ++ [x])).2=0):(tyOf ts ls l ps).2=0:=by
 have hg:=eL h;rw [nA hg.1 hg.2.2] at h;apply Classical.byContradiction
 intro hc;unfold stepE at h;rw [bA hc] at h;exact hc h
theorem iE {ts:List Ty} {ls:List Lc} {l:Int} {ps:List Pj} (h:(tyOf ts ls l ps).2=0) (k:Nat):(tyOf ts ls l (ps.take k)).2=0:=by
 by_cases hk:ps.length<=k
 ·rwa [List.take_of_length_le hk]
 ·have h2:=iE h (k+1);rw [bF (by omega)] at h2;exact qT h2
termination_by ps.length - k
theorem pU {ts:List Ty} {ls:List Lc} {l:Int} {ps:List Pj} {x:Pj} (h:(tyOf ts ls l (ps ++ [x])).2=0):(refsOf ts ls l (ps ++ [x])).1=(refsOf ts ls l ps).1 ++ refT ts (tyOf ts ls l ps).1 x:=by
 obtain ⟨hc,hl0,hl⟩:=eL h;obtain ⟨m,rfl⟩:=bG hl0;have hl':m<ls.length:=by omega
 have h0:=qT h;rw [gX h hl',gX h0 hl'];have h1:tyOf ts ls m ps=lastS (walkS ts ls[m].type 0 ps):=by rw [tyOf,mF (eL h0).1 hl']
 rw [h1] at h0 ⊢;exact lD ts x ps _ _ h0
theorem tS (ts:List Ty) (ls:List Lc) (l:Int):(refsOf ts ls l []).1=[]:=by
 by_cases h:(tyOf ts ls l []).2=0
 ·obtain ⟨hc,hl0,hl⟩:=eL h;obtain ⟨m,rfl⟩:=bG hl0;rw [gX h (by omega),refsW]
 ·rw [lE h]
end
end Go.Proofs.YtcfchohkmkilpaaGreatDoor
