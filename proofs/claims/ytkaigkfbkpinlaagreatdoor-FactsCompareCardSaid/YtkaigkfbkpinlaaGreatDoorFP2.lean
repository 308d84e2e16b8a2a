/-
  Parts of the proof: W7 W8 Region W9 Append W10 W11 W12 W14 Take.
-/
import Derived.Test.YtkaigkfbkpinlaaGreatDoorFP0
import Derived.Test.YtkaigkfbkpinlaaGreatDoorFP1
import Derived.StillTailTactics
import Derived.Shelf.Abstract
import Derived.OrdersHeld
import Derived.Deep.RegionHeld
import Derived.Maps.AppendAt
import Derived.OwnWalk
namespace Go.Proofs.YtkaigkfbkpinlaaGreatDoor
set_option maxRecDepth 100000
set_option maxHeartbeats 16000000
section
open Go.RowKit
attribute [local go_sem] Oper.semAt_some
structure At (ts:List Ty) (ps:List Pj) (L pre:List Stp) (k:Nat) (idx err:Int) (rest:List Stp):Prop where
 all:L=pre ++ ⟨k,idx,err⟩ :: rest
 le:k<=ps.length
 good:err=0->0<=idx/\idx<ts.length/\(⟨k,idx,err⟩ :: rest:List Stp)=walkS ts idx k (ps.drop k)
 bad:err≠0->rest=[]
theorem At.next {ts:List Ty} {ls:List Lc} (hok:Okay ts ls) {ps:List Pj} {L pre:List Stp} {k:Nat} {idx:Int} {rest:List Stp} (h:At ts ps L pre k idx 0 rest) (hk:k<ps.length) {t:Ty} (hi:ts[idx.toNat]?=some t):
 ∃rest',At ts ps L (pre ++ [⟨k,idx,0⟩]) (k+1) (prT t ps[k]).1 (prT t ps[k]).2 rest':=by
 obtain ⟨hall,hle,hg,_⟩:=h;obtain ⟨h0,h1,h2⟩:=hg rfl;have hmem:t∈ts:=List.mem_of_getElem? hi;rw [cJ hk,walkS,hi] at h2;simp only [List.cons.injEq,true_and] at h2;by_cases he:(prT t ps[k]).2=0
 ·rw [bD he] at h2;have hx:=xBI hok hmem ps[k] he;generalize prT t ps[k]=y at *;obtain ⟨y1,y2⟩:=y;simp only [] at he;subst he;cases hr:rest with
  | nil=>
    rw [hr] at h2;cases hd:ps.drop (k+1) with
    | nil=>rw [hd,walkS] at h2;cases h2
    | cons a r=>rw [hd,walkS] at h2;cases h2
  | cons s r=>
    have hs:s=⟨k+1,y1,0⟩:=by
     rw [hr] at h2;cases hd:ps.drop (k+1) with
     | nil=>rw [hd,walkS] at h2;simp at h2;exact h2.1
     | cons a r=>rw [hd,walkS] at h2;simp at h2;exact h2.1
    subst hs;refine ⟨r,⟨by rw [hall,hr];simp,by omega,fun _=>⟨hx.1,hx.2,by rw [<- hr];exact h2⟩,fun h=>absurd rfl h⟩⟩
 ·rw [bB he] at h2;exact ⟨[],⟨by rw [hall,h2];simp,by omega,fun h=>absurd h he,fun _=>rfl⟩⟩
theorem sH (ts:List Ty) (i:Int) (k:Nat):∀ps:List Pj,∃rest,walkS ts i k ps=⟨k,i,0⟩ :: rest
 | []=>⟨_,by rw [walkS]⟩
 | _ :: _=>⟨_,by rw [walkS]⟩
theorem blk2 {w:World} {k:Nat} {a b:Value} {t:TypeId} (h:w.heap[k]?=some (.cells #[a,b] t (0,0))):
 w.cell? ⟨k,0,none⟩=some a/\w.cell? ⟨k,1,none⟩=some b/\w.frozen? ⟨k,0,none⟩=false/\w.frozen? ⟨k,1,none⟩=false:=
 ⟨by rw [cell_of_row w _ 0 _ _ _ h];rfl,by rw [cell_of_row w _ 1 _ _ _ h];rfl,by simp [World.frozen?,h],by simp [World.frozen?,h]⟩
theorem fL {w w':World} {k:Nat} {o:Obj} (hb:Below w.heap.size w w') (h:w.heap[k]?=some o):w'.heap[k]?=some o:=
 (hb.block k (Array.getElem?_eq_some_iff.1 h).1).trans h
theorem sD {w:World} {k:Nat} {a b:Value} {t:TypeId} (x y:Value) (h:w.heap[k]?=some (.cells #[a,b] t (0,0))):
 ((w.setCell ⟨k,0,none⟩ x).setCell ⟨k,1,none⟩ y).heap[k]?=some (.cells #[x,y] t (0,0)):=by
 simp [World.setCell,Array.getElem?_modify,h]
theorem xAX {w:World} {k:Nat} {a b:Value} {t:TypeId} (x:Value) (h:w.heap[k]?=some (.cells #[a,b] t (0,0))):
 (w.setCell ⟨k,0,none⟩ x).heap[k]?=some (.cells #[x,b] t (0,0)):=by
 simp [World.setCell,Array.getElem?_modify,h]
theorem tP {D:Nat} {T:TypeId->Bool} {w:World} {k:Nat} {a b:Value} {t:TypeId} (x y:Value) (h:w.heap[k]?=some (.cells #[a,b] t (0,0))) (hD:D<=k) (hT:T t=true):
 Turn D T w ((w.setCell ⟨k,0,none⟩ x).setCell ⟨k,1,none⟩ y):=
 (Turn.setCell (p:=⟨k,0,none⟩) x h hD hT).trans (Turn.setCell (p:=⟨k,1,none⟩) y (xAX x h) hD hT)
theorem uY (n:Nat) (hn:1<=n) (ts:List Ty) (ls:List Lc) (l:Int) (ps:List Pj) (A B C:Option Addr) (c d e bp bl bt:Nat) (w0 w:World) (hw:Below w0.heap.size w0 w) (h1:w.cell? ⟨bt,0,none⟩=some (.slice A ts.length c)) (h2:w.cell? ⟨bl,0,none⟩=some (.slice B ls.length d)) (h3:w.cell? ⟨bp,0,none⟩=some (.int .i64 l)) (h4:w.cell? ⟨bp,1,none⟩=some (.slice C ps.length e)) (hts:Slc 5 RTy w0 A c ts) (hls:Slc 2 RLc w0 B d ls) (hps:Slc 2 RPj w0 C e ps) (hok:Okay ts ls) (hgood:chk l ps=0) (j:Nat) (hj:l=j) (hlt:j<ls.length):
 SeqL Fence.wide n Tryz.prog 210 #[.pointer (some ⟨bp,0,none⟩),.pointer (some ⟨bl,0,none⟩),.pointer (some ⟨bt,0,none⟩)] encS T54 (fun k=>k<w0.heap.size\/k=bt\/k=bl\/k=bp) (pth ts ls l ps) w:=by
 intro lp J Jx W hW hJ hJx hY h0
 have hL:pth ts ls l ps=walkS ts ls[j].type 0 ps:=by
  rw [pth,bB (by simp [hgood]),hj,bX,bF hlt]
 have hty:=hok.loc ls[j] (bO hlt)
 have hfld:=aH (mV ps (by
  unfold chk at hgood;split at hgood
  ·cases hgood
  ·split at hgood
   ·cases hgood
   ·exact hgood))
 obtain ⟨bL,oL,rfl,hbL,r1,r2⟩:=hls.sl.at_ hlt;have r2:=(hw.cell (p:=⟨bL,oL+j * 2+1,none⟩) hbL).trans r2
 have hat0:∃rest,At ts ps (pth ts ls l ps) [] 0 ls[j].type 0 rest:=by
  rw [hL];obtain ⟨rest,hr⟩:=sH ts ls[j].type 0 ps;exact ⟨rest,⟨by rw [hr];rfl,by simp,fun _=>⟨hty.1,hty.2,by rw [bZ,hr]⟩,fun h=>absurd rfl h⟩⟩
 generalize ls[j].type=ti at *;have HA0:=aH hat0;generalize pth ts ls l ps=L at *;clear hL hat0 r1;subst hj;have hC:=iI j C e ps W (hps.keep RPj.keeps (hw.trans (hW.mono hw.size)));rw [hgood] at hC;have HC:=aH hC;have q1:=cQ hW h1;have q2:=cQ hW h2;have q3:=cQ hW h3;have q4:=cQ hW h4;have q5:=cQ hW r2;have l1:=cF w _ h1;have l3:=cF w _ h3;have hle:=hls.le;have hbig:=hls.big;have hd0:decide (ls.length<=j)=false:=by simpa using hlt
 clear hC hgood hls h2 hty;(refine callsIn_of_wp Tryz.func210 rfl trivial ?_ rfl;simp only [Tryz.ntmps210,List.size_toArray,bN,bQ,Nat.reduceAdd,Nat.reduceSub,Array.replicate_succ,Array.replicate_zero,List.push_toArray,List.append_toArray,List.nil_append,List.cons_append]);gi_wp2_with (refine ⟨trivial,?_⟩;gi_at_call 67;refine (callsIn_wide.2 HC.out).mono ?_;rintro e w1 ⟨rfl,hb1⟩;have z2:=cQ hb1 q2;have z3:=cQ hb1 q3;have z5:=cQ hb1 q5;have hb1':=hb1.size)
 gi_wp2
 gi_loopw [7] (fun v wr=>∃(k:Nat) (pre rest:List Stp) (idx err:Int),v = .int .i64 k/\wr.heap[w1.heap.size]?=some (.cells #[.int .i64 idx,.int .i64 err] 264 (0,0))/\wr.heap[bt]?=w.heap[bt]?/\wr.heap[bp]?=w.heap[bp]?/\Below w0.heap.size w0 wr/\J pre wr/\Hid (At ts ps L pre k idx err rest)) (fun v _=>ps.length+1 - (intOf v).toNat)
 case atStart=>
  obtain ⟨rest,hA⟩:=HA0.out;have hwn:w.heap.size<=w1.heap.size:=cA hW.size hb1';have hww:=((hW.trans (hb1.mono hW.size)).alloc hwn (.cells #[.int .i64 ti,.int .i64 0] 264));exact ⟨0,[],rest,ti,0,rfl,heap_alloc_new w1 _,hww.block _ l1,hww.block _ l3,hw.trans (hww.mono hw.size),hJ _ _ _ h0 (Turn.trans (Turn.of_below hb1) (Turn.of_below ((aZ _ _).alloc (bA _) _))),aH hA⟩
 case round=>
  obtain ⟨k,pre,rest,idx,err,rfl,hbk,hbt,hbp,hB,hJp,hA⟩:=hrel;have hBs:w.heap.size<=wr.heap.size:=by have:=(Array.getElem?_eq_some_iff.1 hbk).1;have:=hW.size;omega
  obtain ⟨fn,tmps,assign,body,hy,hR⟩:=hY pre ⟨k,idx,err⟩ rest wr hA.out.all hJp;rw [show encS ⟨k,idx,err⟩ = #[.int .i64 (k:Int),.agg #[.int .i64 idx,.int .i64 err]] from rfl] at hy;have c0:wr.cell? ⟨w1.heap.size,0,none⟩=some (.int .i64 idx):=by rw [cell_of_row wr _ 0 _ _ _ hbk];rfl
  have c1:wr.cell? ⟨w1.heap.size,1,none⟩=some (.int .i64 err):=by rw [cell_of_row wr _ 1 _ _ _ hbk];rfl
  gi_wp2
  refine hR.mono ?_;clear hy hR c0 c1;rintro e W3 (⟨rfl,hJ3,hk3⟩ | ⟨rfl,hJx3⟩)
  ·have hbk3:=hk3.same _ _ hb1' hbk rfl;have hB3:=hB.trans (hk3.below (n₀ := w0.heap.size) (fun k hk=> .inl hk) hB.size);have hbt3:=(hk3.low bt (.inr (.inl rfl)) (by omega)).trans hbt;have hbp3:=(hk3.low bp (.inr (.inr (.inr rfl))) (by omega)).trans hbp;have c0:W3.cell? ⟨w1.heap.size,0,none⟩=some (.int .i64 idx):=by rw [cell_of_row W3 _ 0 _ _ _ hbk3];rfl
   have c1:W3.cell? ⟨w1.heap.size,1,none⟩=some (.int .i64 err):=by rw [cell_of_row W3 _ 1 _ _ _ hbk3];rfl
   have y4:=(World.cell?_of_block (a:=⟨bp,1,none⟩) hbp3).trans h4;have hpl:=hps.le;have hpb:=hps.big;have hsz3:=hk3.size;have hwn':w.heap.size<=w1.heap.size:=cA hW.size hb1';have hbtW:bt<W3.heap.size:=by omega
   have hbpW:bp<W3.heap.size:=by omega
   have hbtn:=aH (show bt≠w1.heap.size by omega);have hbpn:=aH (show bp≠w1.heap.size by omega);have hw0n:=aH (show w0.heap.size<=w1.heap.size by have:=hw.size;omega);have hbtH:=aH hbt3;have hbpH:=aH hbp3;clear q1 q2 q3 q4 q5 hB hbk hk3 hJp z2 z3 z5 h0 hbt hbp hbt3 hbp3;by_cases herr:err=0
   ·have e1:(err == 0)=true:=by simp [herr]
    by_cases hk:k<ps.length
    ·have hn0:=(hA.out.good herr).1;have hn1:=(hA.out.good herr).2.1;obtain ⟨ij,rfl⟩:=bI hn0;have hij:ij<ts.length:=(by omega);obtain ⟨bC,oC,rfl,hbC,hrC⟩:=hps.sl.at_ hk;obtain ⟨y5,y6⟩:=RPj.keeps _ _ _ w0.heap.size _ _ _ (bA _) hbC hB3 hrC;have y1:=(World.cell?_of_block (a:=⟨bt,0,none⟩) hbtH.out).trans h1;have HP:=aH (fun (X:World) (hb:Below w0.heap.size w0 X)=>pV ts ij _ ps[k] A c X (hts.keep RTy.keeps hb) hij rfl (fun _=>hfld.out _ (bO hk)));have HN:=aH (At.next hok (by rw [herr] at hA;exact hA.out) hk (t:=ts[ij]) (by rw [bX];exact bF hij));obtain ⟨rest',hA'⟩:=HN.out;have HA':=aH hA';clear HN hA';have hwn:w.heap.size<=w1.heap.size:=cA hW.size hb1';generalize prT ts[ij] ps[k]=y at *;generalize ps[k]=x at *;subst herr;clear hA hts hps hn0 hrC;gi_wp2
     refine wpIn_wide.2 ?_;go_still_tail 8,(by kernel_rfl)
     change wpList _ _ _ _ _ W3.drew;go_wp2_with (go_at_call 211;refine (HP.out _ hB3.drew).mono ?_;rintro e w4 ⟨rfl,hb4⟩;have hbk4:=fL hb4 (show W3.drew.heap[w1.heap.size]?=_ from hbk3);obtain ⟨v0,v1,v2,v3⟩:=blk2 hbk4)
     gi_wp2
     go_roundw
     case rel=>exact ⟨k+1,pre ++ [⟨k,ij,0⟩],rest',y.1,y.2,by go_num,sD _ _ hbk4,(((bJ _ _ _ bt hbtn.out).trans (bJ _ _ _ bt hbtn.out)).trans (hb4.block bt hbtW)).trans hbtH.out,(((bJ _ _ _ bp hbpn.out).trans (bJ _ _ _ bp hbpn.out)).trans (hb4.block bp hbpW)).trans hbpH.out,((hB3.drew.trans (hb4.mono hB3.drew.size)).setCell (p:=⟨w1.heap.size,0,none⟩) hw0n.out _).setCell (p:=⟨w1.heap.size,1,none⟩) hw0n.out _,hJ _ _ _ hJ3 ((Turn.of_below (A:=W3) ⟨hb4.os,hb4.tape,hb4.output,hb4.size,hb4.block⟩).trans (tP _ _ hbk4 hb1' rfl)),HA'⟩
     case measure=>simp [intOf];omega
    ·have hrest:Hid (L=pre ++ [⟨k,idx,err⟩]):=aH (by
      obtain ⟨a1,a2,a3,a4⟩:=hA.out;obtain ⟨_,_,a5⟩:=a3 herr;rw [bG (by omega),walkS] at a5
      rw [a1,a5,herr])
     clear hA herr;gi_wp2
     go_end0
     exact ⟨⟨_,rfl⟩,.inl (by rw [hrest.out];exact hJ3)⟩
   ·have e1:(err == 0)=false:=by simp [herr]
    have hrest:Hid (L=pre ++ [⟨k,idx,err⟩]):=aH (by rw [hA.out.all,hA.out.bad herr]);clear hA herr;gi_wp2
    go_end0
    exact ⟨⟨_,rfl⟩,.inl (by rw [hrest.out];exact hJ3)⟩
  ·gi_wp2
   go_end0
   exact ⟨⟨_,rfl⟩,.inr ⟨pre,_,rest,hA.out.all,hJx3⟩⟩
end
section
open Go.RowKit Go.Shelf
attribute [local go_sem] Oper.semAt_some
theorem rL (n:Nat) (hn:1<=n) (ts:List Ty) (ls:List Lc) (l:Int) (ps:List Pj) (A B C:Option Addr) (c d e bp bl bt:Nat) (w0 w:World) (hw:Below w0.heap.size w0 w) (h1:w.cell? ⟨bt,0,none⟩=some (.slice A ts.length c)) (h2:w.cell? ⟨bl,0,none⟩=some (.slice B ls.length d)) (h3:w.cell? ⟨bp,0,none⟩=some (.int .i64 l)) (h4:w.cell? ⟨bp,1,none⟩=some (.slice C ps.length e)) (hts:Slc 5 RTy w0 A c ts) (hls:Slc 2 RLc w0 B d ls) (hps:Slc 2 RPj w0 C e ps) (hok:Okay ts ls):
 SeqL Fence.wide n Tryz.prog 210 #[.pointer (some ⟨bp,0,none⟩),.pointer (some ⟨bl,0,none⟩),.pointer (some ⟨bt,0,none⟩)] encS T54 (fun k=>k<w0.heap.size\/k=bt\/k=bl\/k=bp) (pth ts ls l ps) w:=by
 by_cases hg:chk l ps=0
 ·have hl:0<=l:=by
   unfold chk at hg;split at hg
   ·cases hg
   ·omega
  by_cases hlt:l<ls.length
  ·exact uY n hn ts ls l ps A B C c d e bp bl bt w0 w hw h1 h2 h3 h4 hts hls hps hok hg l.toNat (by omega) (by omega)
  ·exact uZ n hn ts ls l ps A B C c d e bp bl bt w0 w hw h1 h2 h3 h4 hts hls hps hok hg (by omega)
 ·exact vA n hn ts ls l ps A B C c d e bp bl bt w0 w hw h1 h2 h3 h4 hts hls hps hok hg
theorem below_put {n:Nat} {w W:World} {D:Nat} {o:Obj} (h:Below n w W) (hD:n<=D):Below n w (W.putObj D o):=
 h.trans ⟨rfl,rfl,rfl,by simp,fun k hk=>World.putObj_heap_other (by omega)⟩
def lastS (l:List Stp):Int × Int:=match l.getLast? with
 | none=>(0,0)
 | some s=>(s.idx,s.err)
theorem sZ (l:List Stp) (s:Stp):lastS (l ++ [s])=(s.idx,s.err):=by simp [lastS]
def tyOf (ts:List Ty) (ls:List Lc) (l:Int) (ps:List Pj):Int × Int:=lastS (pth ts ls l ps)
theorem sK (ts:List Ty) (ls:List Lc) (l:Int) (ps:List Pj) (A B C:Option Addr) (c d e:Nat) (w:World) (hts:Slc 5 RTy w A c ts) (hls:Slc 2 RLc w B d ls) (hps:Slc 2 RPj w C e ps) (hok:Okay ts ls):
 Calls Tryz.prog 157 #[.slice A ts.length c,.slice B ls.length d,.agg #[.int .i64 l,.slice C ps.length e]] w fun e' w'=>e' = .returned (.tuple #[.int .i64 (tyOf ts ls l ps).1,.int .i64 (tyOf ts ls l ps).2])/\Below w.heap.size w w':=by
 refine (callsIn_wide (n:=5)).1 ?_;refine callsIn_of_wp_marks Tryz.func157 rfl trivial ?_ rfl;simp only [Tryz.ntmps157,List.size_toArray,bN,bQ,Nat.reduceAdd,Nat.reduceSub,Array.replicate_succ,Array.replicate_zero,List.push_toArray,List.append_toArray,List.nil_append,List.cons_append];gi_wp2_with (refine ⟨trivial,?_⟩;gi_at_call 189;refine (callsIn_wide.2 (rM _ _ _ _ _ _ _ _ _ _ _)).mono ?_;rintro e' w' ⟨rfl,rfl⟩)
 obtain ⟨W0,hW0⟩:∃W0,((((w.alloc (.cells #[.int .i64 l,.slice C ps.length e] 36)).alloc (.cells #[.int .i64 0,.int .i64 0] 264)).alloc (.cells #[.slice A ts.length c] 55)).alloc (.cells #[.slice B ls.length d] 56)).alloc (.cells #[.int .i64 l,.slice C ps.length e] 36)=W0:=⟨_,rfl⟩;rw [hW0];have hB0:Below w.heap.size w W0:=by rw [<- hW0];exact aJ
 have hz0:W0.heap.size=w.heap.size+1+1+1+1+1:=by subst hW0;simp
 have z1:W0.heap[w.heap.size+1]?=some (.cells #[.int .i64 0,.int .i64 0] 264 (0,0)):=by
  subst hW0;rw [Below.heap_alloc _ _ _ (by simp),Below.heap_alloc _ _ _ (by simp),Below.heap_alloc _ _ _ (by simp)];have:=heap_alloc_new (w.alloc (.cells #[.int .i64 l,.slice C ps.length e] 36)) (.cells #[.int .i64 0,.int .i64 0] 264);rwa [bK] at this
 have z2:W0.cell? ⟨w.heap.size+1+1,0,none⟩=some (.slice A ts.length c):=by subst hW0;go_simp
 have z3:W0.cell? ⟨w.heap.size+1+1+1,0,none⟩=some (.slice B ls.length d):=by subst hW0;go_simp
 have z4:W0.cell? ⟨w.heap.size+1+1+1+1,0,none⟩=some (.int .i64 l):=by subst hW0;go_simp
 have z5:W0.cell? ⟨w.heap.size+1+1+1+1,1,none⟩=some (.slice C ps.length e):=by subst hW0;go_simp
 have hseq:=rL (5 - 1) (by omega) ts ls l ps A B C c d e _ _ _ w W0 hB0 z2 z3 z4 z5 hts hls hps hok;clear hW0 z2 z3 z4 z5 hts hls hps hok
 refine fD rfl (by omega) (gf:=210) (lb:= #[.pointer (some ⟨w.heap.size+1+1+1+1,0,none⟩),.pointer (some ⟨w.heap.size+1+1+1,0,none⟩),.pointer (some ⟨w.heap.size+1+1,0,none⟩)]) rfl trivial (enters_of Tryz.func210 (by kernel_rfl) rfl)
  hseq (aZ _ _) (by intro k hk;omega) (fun _=>rfl)
  (fun pre W=>W.heap[w.heap.size+1]?=some (.cells #[.int .i64 (lastS pre).1,.int .i64 (lastS pre).2] 264 (0,0))/\Below w.heap.size w W)
  (fun _ _ _=>False)
  (fun s A B hs ht=>⟨ht.block_low (by omega) hs.1,ht.below (by omega) (by have:=hs.2.size;omega) hs.2⟩) (fun _ _ _ _ hs _=>hs)
  ⟨z1,hB0⟩ ?round ?done ?stop
 case round=>
  rintro lr pre x post W hL hlr ⟨r,hr⟩ hWs ⟨hb,hB⟩;clear z1;simp only [encS,List.zip_toArray,List.zip_cons_cons];gi_wp2
  refine ⟨(Kb.refl _ _ _ _).alloc _,fun W2 hrec=>?_⟩;have hb2:=hrec.cells ((Below.heap_alloc W (.cells #[.int .i64 x.idx,.int .i64 x.err] 264) _ (Array.getElem?_eq_some_iff.1 hb).1).trans hb);have hn2:=hrec.cells (heap_alloc_new W (.cells #[.int .i64 x.idx,.int .i64 x.err] 264));obtain ⟨v0,v1,v2,v3⟩:=blk2 hb2;obtain ⟨y0,y1,y2,y3⟩:=blk2 hn2;have hB2:Below w.heap.size w W2:=(hB.alloc hB.size (.cells #[.int .i64 x.idx,.int .i64 x.err] 264)).trans ⟨hrec.os,hrec.tape,hrec.output,by rw [hrec.size];exact bA _,fun k hk=>hrec.block k (by omega)⟩;gi_wp2
  exact ⟨((Kb.refl _ _ _ _).setLow (p:=⟨w.heap.size+1,0,none⟩) _ (by simp) (by simp;omega)).setLow (p:=⟨w.heap.size+1,1,none⟩) _ (by simp) (by simp;omega),by rw [sZ];exact sD _ _ hb2,(hB2.setCell (p:=⟨w.heap.size+1,0,none⟩) (by simp) _).setCell (p:=⟨w.heap.size+1,1,none⟩) (by simp) _⟩
 case done=>
  rintro D W hD ⟨hb,hB⟩ hK;obtain ⟨v0,v1,v2,v3⟩:=blk2 hb;gi_wp2
  refine wpIn_wide.2 ?_;go_quiet (fail)
  gi_wp2
  refine ⟨by simp,.inl ⟨_,_,rfl,run_takeDeferred (w:=W.drewN _) hK,?_⟩⟩;exact ⟨_,results_tmp2 rfl _ _ _,rfl,below_put (aI hB _) (by omega)⟩
 case stop=>exact fun _ _ _ _ _ _ _ _ h=>h.elim
end
section
open Go.RowKit
section
variable {P:Program} {ops:Array Oper} {Q:Exit->Act->World->Prop} {md:Region.Mode} {S:World->Prop} {t:Nat}
def wpAnyM (P:Program) (md:Region.Mode) (ops:Array Oper) (Q:Exit->Act->World->Prop) (S:World->Prop) (t:Nat):Nat->Array Bool->Act->World->Prop
 | 0,listed,a,w=>Region.ready md ops listed=[]/\Q .normal a w
 | fuel+1,listed,a,w=>
   (Region.ready md ops listed=[]->Q .normal a w)/\
   ∀i∈Region.ready md ops listed,wpOp P ops Q i (fun a' w'=>(i<t->S w')/\wpAnyM P md ops Q S t fuel (listed.setIfInBounds i true) a' w') a w
theorem iL:∀(fuel:Nat) (listed:Array Bool) (a:Act) (w:World),wpAnyM P md ops Q S t fuel listed a w->wpAny P md ops Q fuel listed a w
 | 0,_,_,_,h=>h
 | fuel+1,_,_,_,h=>⟨h.1,fun i hi=>wpOp_mono (fun a' w' h'=>iL fuel _ a' w' h'.2) (h.2 i hi)⟩
theorem oA {i:Nat} {oi:Oper} {v:Value} (hi:ops[i]?=some oi) (hsel:∀(j:Nat) (o:Oper) cs b,ops[j]?=some o->o.op ≠ .select cs b)
 (hQ:∀c a w,Q (.panic c) (a.put oi.dst v) w->Q (.panic c) a w):
 ∀(fuel:Nat) (listed:Array Bool) (a:Act) (w:World),
  (∀j oj,ops[j]?=some oj->j≠i->listed.getD j true=false->(∀e∈oj.after,Region.binds md e=true->e.on≠i)->oi.apart ops oj=true/\j<t)->
  i∈Region.ready md ops listed->YieldsIf P ops S oi v a->S w->
  wpAnyM P md ops Q S t fuel (listed.setIfInBounds i true) (a.put oi.dst v) w->wpAnyM P md ops Q S t (fuel+1) listed a w:=by
 intro fuel;induction fuel with
 | zero=>
   intro listed a w _ hr hy hS H;refine ⟨fun h=>(by rw [h] at hr;cases hr),fun j hj=>?_⟩;by_cases hji:j=i
   ·subst hji;exact hy.wpOp hi hS ⟨fun _=>hS,H⟩
   ·have:=ready_mono hj hji;rw [H.1] at this;cases this
 | succ fuel ih=>
   intro listed a w hfree hr hy hS H;refine ⟨fun h=>(by rw [h] at hr;cases hr),fun j hj=>?_⟩;by_cases hji:j=i
   ·subst hji;exact hy.wpOp hi hS ⟨fun _=>hS,H⟩
   ·have h1:=H.2 j (ready_mono hj hji);obtain ⟨hjun,oj,hoj,hall⟩:=mem_ready.1 hj
    have hnot:∀e∈oj.after,Region.binds md e=true->e.on≠i:=fun e he hb heq=>by
     have h1:=hall e he hb;have h0:=(mem_ready.1 hr).1;rw [heq] at h1;rcases Nat.lt_or_ge i listed.size with h' | h'
     ·simp [h'] at h0 h1;rw [h0] at h1;cases h1
     ·simp [Array.getElem?_eq_none h'] at h1
    have h2:=wpOp_putIf hoj (hfree j oj hoj hji hjun hnot).1 (fun cs b=>hsel i oi cs b hi) (fun cs b=>hsel j oj cs b hoj) hQ hy h1;have hjt:=(hfree j oj hoj hji hjun hnot).2
    have hfree':∀k ok,ops[k]?=some ok->k≠i->(listed.setIfInBounds j true).getD k true=false->
     (∀e∈ok.after,Region.binds md e=true->e.on≠i)->oi.apart ops ok=true/\k<t:=fun k ok hk hki hun hno=>by
     refine hfree k ok hk hki ?_ hno;by_cases hjk:j=k
     ·subst hjk;exact hjun
     ·rw [getD_set_ne true hjk] at hun;exact hun
    refine wpOp_mono (fun a' w' h3=>⟨h3.2.1,ih (listed.setIfInBounds j true) a' w' hfree' (ready_mono hr (Ne.symm hji)) h3.1 (h3.2.1 hjt) ?_⟩) h2;rw [Array.setIfInBounds_comm _ _ hji];exact h3.2.2
def lateB (md:Region.Mode) (ops:Array Oper) (t:Nat) (listed:Array Bool) (i:Nat):Bool:=
 (List.range ops.size).all fun j=>decide (j<t) || listed.getD j true || match ops[j]? with
   | some oj=>oj.after.any (fun e=>Region.binds md e && e.on == i)
   | none=>true
theorem dU {i:Nat} {oi:Oper} {v:Value} {fuel:Nat} {listed:Array Bool} {a:Act} {w:World} (hi:ops[i]?=some oi)
 (hs:Region.noSelect ops=true) (hf:Region.free md ops listed i=true) (hl:lateB md ops t listed i=true) (hr:(Region.ready md ops listed).contains i=true)
 (hQ:∀c a w,Q (.panic c) (a.put oi.dst v) w->Q (.panic c) a w) (hy:YieldsIf P ops S oi v a) (hS:S w)
 (h:wpAnyM P md ops Q S t fuel (listed.setIfInBounds i true) (a.put oi.dst v) w):wpAnyM P md ops Q S t (fuel+1) listed a w:=
 oA hi (Region.noSelect_spec hs) hQ fuel listed a w (fun j oj hj hne hun hno=>⟨Region.free_spec hi hf j oj hj hne hun hno,by
  have h1:=List.all_eq_true.1 hl j (List.mem_range.2 (Array.getElem?_eq_some_iff.1 hj).1);simp only [hj,hun,Bool.or_false,Bool.or_eq_true,decide_eq_true_eq] at h1;rcases h1 with h1 | h1
  ·exact h1
  ·obtain ⟨e,he,hb⟩:=Array.any_eq_true'.1 h1;simp only [bR,beq_iff_eq] at hb
   exact absurd hb.2 (hno e he hb.1)⟩) (by simpa using hr) hy hS h
theorem eG {i:Nat} {o:Oper} {fuel:Nat} {listed:Array Bool} {a:Act} {w:World} (hr:Region.ready md ops listed=[i]) (ho:ops[i]?=some o)
 (h:∀K':Act->World->Prop,Shut (∀a w,(i<t->S w)->wpAnyM P md ops Q S t fuel (listed.setIfInBounds i true) a w->K' a w)->if Region.wanted o (yielded ops a.tmps)=true then Oper.wp P o a w K' Q else K' (a.put o.dst undef) w):
 wpAnyM P md ops Q S t (fuel+1) listed a w:=
 ⟨fun h0=>(by rw [hr] at h0;cases h0),fun j hj=>by
   rw [hr,bU] at hj;subst hj
   exact wpOp_step ho (fun K' hK=>h K' (fun a w hS hW=>hK a w ⟨hS,hW⟩))⟩
theorem gP {listed:Array Bool} {a:Act} {w:World} (hr:Region.ready md ops listed=[]) (h:Q .normal a w):∀fuel,wpAnyM P md ops Q S t fuel listed a w
 | 0=>⟨hr,h⟩
 | _+1=>⟨fun _=>h,by rw [hr];simp⟩
theorem kL {id:Nat} {a:Act} {w:World} (hm:P.follows .mixedOrders=true) (h:wpAnyM P .any ops Q S t ops.size (Array.replicate ops.size false) a w.drew):(Code.region id ops true).wp P Q a w:=
 wp_region_any hm (iL _ _ _ _ h)
theorem tI {id:Nat} {a:Act} {w:World} {r m:Nat} (hm:P.follows .mixedOrders=true) (hnd:iS ops=true) (hout:¬LetsOut Q) (h:wpAnyM P .any ops Q S t ops.size (Array.replicate ops.size false) a w.drew):
 (Code.region id ops true).wpIn (Fence.wide.inRound r) m P Q a w:=
 tK hm hnd hout (iL _ _ _ _ h)
end
end
section
open Go.RowKit Go.Shelf
attribute [local go_sem] Oper.semAt_some
structure TH where
 t:Ty
 A:Option Addr
 c:Nat
def iX (y:TH):List Value:=[.int .i64 y.t.kind,.bool y.t.mu,.int .i64 y.t.reg,.int .i64 y.t.elem,.slice y.A y.t.flds.length y.c]
def GoodH (w:World) (y:TH):Prop:=Sl 1 RInt w w.heap.size y.A y.t.flds/\y.t.flds.length<=y.c/\y.c<=9223372036854775807
theorem GoodH.keep {w w':World} {y:TH} (h:GoodH w y) (hb:Below w.heap.size w w'):GoodH w' y:=⟨h.1.keep RInt.keeps hb.size hb,h.2⟩
theorem fJ {α : Type} {k:Nat} (f : α -> List Value) (hf:∀y,(f y).length=k):∀(ys:List α) (i:Nat) (y : α),ys[i]?=some y->∀j,j<k->(ys.flatMap f)[i * k+j]?=(f y)[j]?
 | [],i,y,h,_,_=>by simp at h
 | z :: zs,0,y,h,j,hj=>by
   simp only [aB,cK] at h;subst h;rw [List.flatMap_cons,Nat.zero_mul,Nat.zero_add,List.getElem?_append_left (by rw [hf];exact hj)]
 | z :: zs,i+1,y,h,j,hj=>by
   rw [List.getElem?_cons_succ] at h;rw [List.flatMap_cons,List.getElem?_append_right (by rw [hf,Nat.add_mul];omega),hf,show (i+1) * k+j - k=i * k+j by rw [Nat.add_mul];omega];exact fJ f hf zs i y h j hj
theorem kR {W:World} {base:Nat} {e:TypeId} {v:Value} {ys:List TH} (h:W.ownsRow base e 5 v ys.length (ys.flatMap iX)) (hg:∀y∈ys,GoodH W y):
 ∃A c,v = .slice A ys.length c/\Slc 5 RTy W A c (ys.map (·.t)):=by
 rcases h.2 with ⟨rfl,hn⟩ | ⟨g,cap,cur,rfl,hb,hh,hnc,hm,_,_⟩
 ·have:ys=[]:=bW hn;subst this;exact ⟨none,0,rfl,Sl.nil,by simp,by omega⟩
 ·refine ⟨some ⟨g,0,none⟩,cap,rfl,⟨fun _=>⟨g,0,rfl,(Array.getElem?_eq_some_iff.1 hh).1,fun i x hx=>?_⟩,by simpa using hnc,by simp only [maxLen] at hm;omega⟩⟩;rw [cP] at hx;obtain ⟨y,hy,rfl⟩:=Option.map_eq_some_iff.1 hx;have hc:=fun j hj u hu=>h.cells (g:=g) rfl (i * 5+j) u ((fJ iX (fun _=>rfl) ys i y hy j hj).trans hu)
  have hadd:∀n,(⟨g,0,none⟩:Addr).add n=⟨g,n,none⟩:=fun n=>by unfold Addr.add;split <;> simp_all
  simp only [hadd] at hc;have hgd:=hg y (List.mem_of_getElem? hy);refine ⟨?_,?_,?_,?_,y.A,y.c,?_,hgd.2.1,hgd.2.2,hgd.1⟩
  ·simpa using hc 0 (by omega) _ rfl
  ·simpa using hc 1 (by omega) _ rfl
  ·simpa using hc 2 (by omega) _ rfl
  ·simpa using hc 3 (by omega) _ rfl
  ·simpa using hc 4 (by omega) _ rfl
theorem xEU:(Tryz.prog.info? 104).map (fun i=>(i.zero,i.size,i.bytes))=some (some (.agg #[.int .i64 0,.bool false,.int .i64 0,.int .i64 0,.slice none 0 0]),5,56):=by kernel_rfl
def gT (ts:List Ty) (ps:List Pj) (s:Stp):List Ty:=match ps[s.num]? with
 | none=>[]
 | some x=>if x.kind=0 then (match ts[s.idx.toNat]? with | none=>[] | some t=>[t]) else []
def refsL (ts:List Ty) (ps:List Pj) (L:List Stp):List Ty:=L.flatMap (gT ts ps)
theorem iP (ts:List Ty) (ps:List Pj) (L:List Stp) (s:Stp):refsL ts ps (L ++ [s])=refsL ts ps L ++ gT ts ps s:=by simp [refsL]
theorem qR {ts:List Ty} {ls:List Lc} (hok:Okay ts ls):∀(ps:List Pj) (i:Int) (k:Nat),0<=i->i<ts.length->∀s∈walkS ts i k ps,s.err=0->0<=s.idx/\s.idx<ts.length
 | [],i,k,h0,h1,s,hs,_=>by
   rw [walkS,bU] at hs;subst hs;exact ⟨h0,h1⟩
 | x :: r,i,k,h0,h1,s,hs,he=>by
   rw [walkS,cM] at hs;rcases hs with rfl | hs
   ·exact ⟨h0,h1⟩
   ·have hi:i.toNat<ts.length:=(by omega);rw [bF hi] at hs;simp only [] at hs;split at hs
    ·rename_i h2;have h3:=xBI hok (bO hi) x h2;exact qR hok r _ _ h3.1 h3.2 s hs he
    ·rename_i h2;rw [bU] at hs;subst hs;exact absurd he h2
theorem oB (ts:List Ty):∀(ps:List Pj) (i:Int) (k:Nat),(walkS ts i k ps).length<=ps.length+1
 | [],i,k=>by simp [walkS]
 | x :: r,i,k=>by
   rw [walkS,bN,bN];split
   ·simp
   ·split
    ·have:=oB ts r ((prT ‹Ty› x).1) (k+1);omega
    ·simp
theorem xBH {ts:List Ty} {ls:List Lc} (hok:Okay ts ls) (l:Int) (ps:List Pj):∀s∈pth ts ls l ps,s.err=0->0<=s.idx/\s.idx<ts.length:=by
 intro s hs he;unfold pth at hs;split at hs
 ·rename_i h;rw [bU] at hs;subst hs;exact absurd he h
 ·split at hs
  ·rw [bU] at hs;subst hs;cases he
  ·rename_i x hx;have:=hok.loc x (List.mem_of_getElem? hx);exact qR hok ps _ _ this.1 this.2 s hs he
theorem uQ (ts:List Ty) (ls:List Lc) (l:Int) (ps:List Pj):(pth ts ls l ps).length<=33:=by
 unfold pth;split
 ·simp
 ·rename_i h
  have hp:ps.length<=32:=by
   unfold chk at h;split at h
   ·simp at h
   ·split at h
    ·simp at h
    ·omega
  split
  ·simp
  ·have:=oB ts ps (‹Lc› : Lc).type 0;omega
def refsOf (ts:List Ty) (ls:List Lc) (l:Int) (ps:List Pj):List Ty × Bool:=
 if (pth ts ls l ps).any (fun s=>s.err != 0) then ([],false) else (refsL ts ps (pth ts ls l ps),true)
end
section
open Go.RowKit
theorem eS {P:Program} {o:Oper} {a:Act} {w:World} {K:Act->World->Prop} {Q:Exit->Act->World->Prop} (s x:Operand) (t:TypeId)
 (ho:o.op = .call { callee:= .builtin .append,args:= #[s,x],argTypes:= #[t,t] })
 (base:Nat) (e:TypeId) (i:TypeInfo) (z:Value) (size bytes:Nat) (ht:P.underlying t=some (.slice e)) (hi:P.info? e=some i) (hz:i.zero=some z)
 (hsize:i.size=size) (hby:i.bytes=bytes) (hzs:z.cells.size=size) (hsz:0<size)
 (v:Value) (n:Nat) (xs:List Value) (hs:a.eval s=v) (hown:w.ownsRow base e size v n xs)
 (ad:Addr) (m c:Nat) (news:List Value) (hx:a.eval x = .slice (some ad) m c) (hl:news.length=m * size) (hnews:∀j u,news[j]?=some u->w.cell? (ad.add j)=some u) (h1:∀u∈news,u.oneCell'=true)
 (h63:n+m<=maxLen) (hbytes:(n+m) * bytes<=140737488355328) (hbase:base<=w.heap.size)
 (h:∀v' w',w'.ownsRow base e size v' (n+m) (xs ++ news)->w.grownBy w' v.ownBlock->(v'.ownBlock=v.ownBlock\/v'.ownBlock=some w.heap.size)->K (a.put o.dst v') w'):o.wp P a w K Q:=by
 obtain ⟨v',w',hrun,h2,h3,_,h5⟩:=run_append_own_at (P:=P) w base t o.type e i z size bytes ht hi hz hsize hby hzs hsz v n xs hown ad m c news hl hnews h1 h63 hbytes hbase;unfold Oper.wp execOp;simp only [ho,resolve,invoke,builtin,Sem.run_bind,Sem.run_pure,Result.andThen_ok,List.map_toArray,List.map_cons,List.map_nil,hs,hx,hrun];exact h v' w' h2 h3 h5
theorem xEI {w:World} {base:Nat} {e t:TypeId} {size n g:Nat} {v:Value} {xs:List Value} {cs:Array Value} {z:Nat × Nat} (h:w.ownsRow base e size v n xs) (hg:w.heap[g]?=some (.cells cs t z)) (hne:e≠t):some g≠v.ownBlock:=by
 rcases h.2 with ⟨rfl,_⟩ | ⟨g',cap,cur,rfl,_,hh,_⟩
 ·simp [Value.ownBlock]
 ·intro he;have:g=g':=by simpa [Value.ownBlock] using he
  subst this;rw [hh] at hg;injection hg with hg
  injection hg with _ ht
  exact hne ht
theorem dQ {w:World} {base:Nat} {e:TypeId} {size n g:Nat} {v:Value} {xs:List Value} (h:w.ownsRow base e size v n xs) (hg:g<base):some g≠v.ownBlock:=fun he=>by
 have:=(h.lt g he.symm).1;omega
end
section
open Go.RowKit Go.Shelf
attribute [local go_sem] Oper.semAt_some
theorem blk1 {w:World} {k:Nat} {a:Value} {t:TypeId} (h:w.heap[k]?=some (.cells #[a] t (0,0))):w.cell? ⟨k,0,none⟩=some a/\w.frozen? ⟨k,0,none⟩=false:=
 ⟨by rw [cell_of_row w _ 0 _ _ _ h];rfl,by simp [World.frozen?,h]⟩
def xM (w:World) (os:List Obj):World:=os.foldl World.alloc w
theorem tE (os:List Obj):∀(w:World) (k:Nat),k<w.heap.size->(xM w os).heap[k]?=w.heap[k]?:=by
 induction os with
 | nil=>intro w k _;rfl
 | cons o os ih=>intro w k hk;exact (ih (w.alloc o) k (by simp;omega)).trans (Below.heap_alloc w o k hk)
theorem tF (os:List Obj):∀(w:World) (i:Nat),i<os.length->(xM w os).heap[w.heap.size+i]?=os[i]?:=by
 induction os with
 | nil=>intro w i h;simp at h
 | cons o os ih=>
   intro w i h;cases i with
   | zero=>exact (tE os (w.alloc o) w.heap.size (by simp)).trans (heap_alloc_new w o)
   | succ i=>
     have:=ih (w.alloc o) i (by simpa using h);rw [bK,Nat.add_assoc,Nat.add_comm 1 i] at this;exact this
theorem iJ {w:World} {k:Nat} {a:Value} {t:TypeId} (x:Value) (h:w.heap[k]?=some (.cells #[a] t (0,0))):(w.setCell ⟨k,0,none⟩ x).heap[k]?=some (.cells #[x] t (0,0)):=by
 simp [World.setCell,Array.getElem?_modify,h]
theorem fC {w:World} {k:Nat} {o:Obj} {p:Addr} (u:Value) (h:w.heap[k]?=some o) (hne:k≠p.block):(w.setCell p u).heap[k]?=some o:=(bJ w p u k hne).trans h
theorem rD (ts:List Ty) (ps:List Pj) (L:List Stp):(refsL ts ps L).length<=L.length:=by
 induction L with
 | nil=>simp [refsL]
 | cons s L ih=>
   have h1:(gT ts ps s).length<=1:=by
    unfold gT;split
    ·simp
    ·split
     ·split <;> simp
     ·simp
   unfold refsL at *;rw [List.flatMap_cons,bE,bN];omega
structure RefI (ts:List Ty) (ps:List Pj) (A C:Option Addr) (c e b D:Nat) (l:Int) (w:World) (pre:List Stp) (W:World):Prop where
 types:W.heap[b]?=some (.cells #[.slice A ts.length c] 55 (0,0))
 plc:W.heap[b+1]?=some (.cells #[.int .i64 l,.slice C ps.length e] 36 (0,0))
 res:W.heap[b+1+1]?=some (.cells #[.slice none 0 0] 55 (0,0))
 ok:W.heap[b+1+1+1]?=some (.cells #[.bool false] 4 (0,0))
 row:∃(ys:List TH) (v:Value),W.heap[b+1+1+1+1]?=some (.cells #[v] 55 (0,0))/\W.ownsRow D 104 5 v ys.length (ys.flatMap iX)/\(∀y∈ys,GoodH w y)/\ys.map (·.t)=refsL ts ps pre
 good:∀s∈pre,s.err=0
 low:Below w.heap.size w W
theorem RefI.turn {ts:List Ty} {ps:List Pj} {A C:Option Addr} {c e b D:Nat} {l:Int} {w:World} {pre:List Stp} {X Y:World} (h:RefI ts ps A C c e b D l w pre X) (hb:b+5<=D) (hw:w.heap.size<=b) (ht:Turn D T54 X Y):RefI ts ps A C c e b D l w pre Y:=
 ⟨ht.block_low (by omega) h.types,ht.block_low (by omega) h.plc,ht.block_low (by omega) h.res,ht.block_low (by omega) h.ok,
  let ⟨ys,v,h1,h2,h3,h4⟩:=h.row
  ⟨ys,v,ht.block_low (by omega) h1,ht.grownBy (by decide) h2,h3,h4⟩,h.good,ht.below (by omega) (h.low.size) h.low⟩
theorem rC (ts:List Ty) (ls:List Lc) (l:Int) (ps:List Pj) (A B C:Option Addr) (c d e:Nat) (w:World) (hts:Slc 5 RTy w A c ts) (hls:Slc 2 RLc w B d ls) (hps:Slc 2 RPj w C e ps) (hok:Okay ts ls):
 Calls Tryz.prog 180 #[.slice A ts.length c,.slice B ls.length d,.agg #[.int .i64 l,.slice C ps.length e]] w fun e' w'=>∃A' c',e' = .returned (.tuple #[.slice A' (refsOf ts ls l ps).1.length c',.bool (refsOf ts ls l ps).2])/\Slc 5 RTy w' A' c' (refsOf ts ls l ps).1/\Below w.heap.size w w':=by
 refine (callsIn_wide (n:=5)).1 ?_;refine callsIn_of_wp_marks Tryz.func180 rfl trivial ?_ rfl;simp only [Tryz.ntmps180,List.size_toArray,bN,bQ,Nat.reduceAdd,Nat.reduceSub,Array.replicate_succ,Array.replicate_zero,List.push_toArray,List.append_toArray,List.nil_append,List.cons_append];gi_wp2_with (refine ⟨trivial,?_⟩;gi_at_call 189;refine (callsIn_wide.2 (rM _ _ _ _ _ _ _ _ _ _ _)).mono ?_;rintro e' w' ⟨rfl,rfl⟩)
 obtain ⟨W0,hW0⟩:∃W0,(((((((w.alloc (.cells #[.slice A ts.length c] 55)).alloc (.cells #[.int .i64 l,.slice C ps.length e] 36)).alloc (.cells #[.slice none 0 0] 55)).alloc (.cells #[.bool false] 4)).alloc (.cells #[.slice none 0 0] 55)).alloc (.cells #[.slice A ts.length c] 55)).alloc (.cells #[.slice B ls.length d] 56)).alloc (.cells #[.int .i64 l,.slice C ps.length e] 36)=W0:=⟨_,rfl⟩;rw [hW0];have hB0:Below w.heap.size w W0:=by rw [<- hW0];exact aJ
 have hz0:W0.heap.size=w.heap.size+1+1+1+1+1+1+1+1:=by subst hW0;simp
 have hall:=fun i hi=>(tF [.cells #[.slice A ts.length c] 55,.cells #[.int .i64 l,.slice C ps.length e] 36,.cells #[.slice none 0 0] 55,.cells #[.bool false] 4,.cells #[.slice none 0 0] 55,.cells #[.slice A ts.length c] 55,.cells #[.slice B ls.length d] 56,.cells #[.int .i64 l,.slice C ps.length e] 36] w i hi)
 rw [show xM w [.cells #[.slice A ts.length c] 55,.cells #[.int .i64 l,.slice C ps.length e] 36,.cells #[.slice none 0 0] 55,.cells #[.bool false] 4,.cells #[.slice none 0 0] 55,.cells #[.slice A ts.length c] 55,.cells #[.slice B ls.length d] 56,.cells #[.int .i64 l,.slice C ps.length e] 36]=W0 from hW0] at hall;have z0:W0.heap[w.heap.size]?=some (.cells #[.slice A ts.length c] 55 (0,0)):=hall 0 (by simp);have z1:W0.heap[w.heap.size+1]?=some (.cells #[.int .i64 l,.slice C ps.length e] 36 (0,0)):=hall 1 (by simp);have z2:W0.heap[w.heap.size+1+1]?=some (.cells #[.slice none 0 0] 55 (0,0)):=hall 2 (by simp);have z3:W0.heap[w.heap.size+1+1+1]?=some (.cells #[.bool false] 4 (0,0)):=hall 3 (by simp);have z4:W0.heap[w.heap.size+1+1+1+1]?=some (.cells #[.slice none 0 0] 55 (0,0)):=hall 4 (by simp);have z5:W0.heap[w.heap.size+1+1+1+1+1]?=some (.cells #[.slice A ts.length c] 55 (0,0)):=hall 5 (by simp);have z6:W0.heap[w.heap.size+1+1+1+1+1+1]?=some (.cells #[.slice B ls.length d] 56 (0,0)):=hall 6 (by simp);have z7:W0.heap[w.heap.size+1+1+1+1+1+1+1]?=some (.cells #[.int .i64 l,.slice C ps.length e] 36 (0,0)):=hall 7 (by simp);have hseq:=rL (5 - 1) (by omega) ts ls l ps A B C c d e _ _ _ w W0 hB0 (blk1 z5).1 (blk1 z6).1 (blk2 z7).1 (blk2 z7).2.1 hts hls hps hok;have hlen:=aH (uQ ts ls l ps);have hpok:=aH (xBH hok l ps);have hI0:RefI ts ps A C c e w.heap.size W0.heap.size l w [] W0:=⟨z0,z1,z2,z3,⟨[],_,z4,World.ownsRow_nil _ _ _ _,by simp,rfl⟩,by simp,hB0⟩;have hpl:=hps.le;have hpb:=hps.big;have htl:=hts.le;have htb:=hts.big;clear hall hW0 z0 z1 z2 z3 z4 z5 z6 z7 hls hok
 refine fD rfl (by omega) (gf:=210) (lb:= #[.pointer (some ⟨w.heap.size+1+1+1+1+1+1+1,0,none⟩),.pointer (some ⟨w.heap.size+1+1+1+1+1+1,0,none⟩),.pointer (some ⟨w.heap.size+1+1+1+1+1,0,none⟩)]) rfl trivial (enters_of Tryz.func210 (by kernel_rfl) rfl)
  hseq (aZ _ _) (by intro k hk;omega) (fun _=>rfl)
  (RefI ts ps A C c e w.heap.size W0.heap.size l w)
  (fun co pre W=>co = .ret/\W.heap[w.heap.size+1+1]?=some (.cells #[.slice none 0 0] 55 (0,0))/\W.heap[w.heap.size+1+1+1]?=some (.cells #[.bool false] 4 (0,0))/\Below w.heap.size w W/\∃s∈pre,s.err≠0)
  (fun s X Y hs ht=>hs.turn (by omega) (bA _) ht)
  (fun _ _ X Y hs ht=>⟨hs.1,ht.block_low (by omega) hs.2.1,ht.block_low (by omega) hs.2.2.1,ht.below (by omega) hs.2.2.2.1.size hs.2.2.2.1,hs.2.2.2.2⟩)
  hI0 ?round ?done ?stop
 case round=>
  rintro lr pre x post W hL hlr ⟨r,hr⟩ hWs hI;simp only [encS,List.zip_toArray,List.zip_cons_cons];gi_wp2
  refine ⟨(Kb.refl _ _ _ _).alloc _,fun W2 hrec=>?_⟩;have hn2:=hrec.cells (heap_alloc_new W (.cells #[.int .i64 x.idx,.int .i64 x.err] 264));have hI2:RefI ts ps A C c e w.heap.size W0.heap.size l w pre W2:=hI.turn (by omega) (bA _) ((Turn.of_below ((aZ _ _).alloc (bA _) _)).trans (hrec.turn hlr));have hs2:W2.heap.size=W.heap.size+1:=by rw [hrec.size];simp
  clear hI hrec hI0;have HX:=aH hL;clear hL;generalize W.heap.size=bn at *;have hbn:W0.heap.size<=bn:=hWs;clear hr hWs;obtain ⟨q1,q2,q3,q4,⟨ys,v,q5,q6,q7,q8⟩,q9,q10⟩:=hI2;obtain ⟨y0,y1,y2,y3⟩:=blk2 hn2;by_cases herr:x.err=0
  ·have e1:(x.err != 0)=false:=by simp [herr]
   have hgood:Hid (∀s∈pre ++ [x],s.err=0):=aH (fun s hs=>by
    rcases List.mem_append.1 hs with h | h
    ·exact q9 s h
    ·rw [bU] at h;rw [h];exact herr)
   have hidx:=hpok.out x (by rw [HX.out];simp) herr;obtain ⟨p1,_⟩:=blk1 q1;obtain ⟨p2,p3,_,_⟩:=blk2 q2;clear q9;by_cases hk:x.num<ps.length
   ·obtain ⟨bC,oC,rfl,hbC,hrC⟩:=hps.sl.at_ hk;obtain ⟨g1,g2⟩:=RPj.keeps _ _ _ w.heap.size _ _ _ (bA _) hbC q10 hrC;by_cases hkd:ps[x.num].kind=0
    ·have e2:(ps[x.num].kind == 0)=true:=by simp [hkd]
     obtain ⟨xn,xi,xe⟩:=x;simp only [] at *;obtain ⟨ij,rfl⟩:=bI hidx.1;have hij:ij<ts.length:=(by omega);obtain ⟨bT,oT,rfl,hbT,hrT⟩:=hts.sl.at_ hij;obtain ⟨r1,r2,r3,r4,A2,c2,r5,r6,r7,r8⟩:=hrT;have hnewG:GoodH w ⟨ts[ij],A2,c2⟩:=⟨r8,r6,r7⟩;replace r1:=cQ q10 r1;replace r2:=cQ q10 r2;replace r3:=cQ q10 r3;replace r4:=cQ q10 r4;replace r5:=cQ q10 r5
     have hrefs:Hid (refsL ts ps (pre ++ [⟨xn,ij,xe⟩])=refsL ts ps pre ++ [ts[ij]]):=aH (by
      rw [iP,gT,bF hk]
      simp [hkd,hij])
     generalize ps[xn]=pj at *;generalize ts[ij]=tt at *;clear hkd hps hts herr hidx hrC;obtain ⟨v1,v2⟩:=blk1 q5;have hlb:=eB hbT;gi_wp2
     refine tI (S:=fun X=>X.cell? ⟨w.heap.size+1+1+1+1,0,none⟩=some v/\X.cell? ⟨w.heap.size,0,none⟩=some (.slice (some ⟨bT,oT,none⟩) ts.length c)/\X.cell? ⟨bn,0,none⟩=some (.int .i64 ij)/\X.cell? ⟨bT,oT+ij * 5,none⟩=some (.int .i64 tt.kind)/\X.cell? ⟨bT,oT+ij * 5+1,none⟩=some (.bool tt.mu)/\X.cell? ⟨bT,oT+ij * 5+2,none⟩=some (.int .i64 tt.reg)/\X.cell? ⟨bT,oT+ij * 5+3,none⟩=some (.int .i64 tt.elem)/\X.cell? ⟨bT,oT+ij * 5+4,none⟩=some (.slice A2 tt.flds.length c2)) (t:=8) (by kernel_rfl) (by kernel_rfl) (by rintro ⟨_,_,hx⟩;exact hx) ?_;have hS:W2.drew.cell? ⟨w.heap.size+1+1+1+1,0,none⟩=some v/\W2.drew.cell? ⟨w.heap.size,0,none⟩=some (.slice (some ⟨bT,oT,none⟩) ts.length c)/\W2.drew.cell? ⟨bn,0,none⟩=some (.int .i64 ij)/\W2.drew.cell? ⟨bT,oT+ij * 5,none⟩=some (.int .i64 tt.kind)/\W2.drew.cell? ⟨bT,oT+ij * 5+1,none⟩=some (.bool tt.mu)/\W2.drew.cell? ⟨bT,oT+ij * 5+2,none⟩=some (.int .i64 tt.reg)/\W2.drew.cell? ⟨bT,oT+ij * 5+3,none⟩=some (.int .i64 tt.elem)/\W2.drew.cell? ⟨bT,oT+ij * 5+4,none⟩=some (.slice A2 tt.flds.length c2):=⟨v1,p1,y0,r1,r2,r3,r4,r5⟩;refine dU (i:=0) (v:=?tv0) rfl (by kernel_rfl) (by kernel_rfl) (by kernel_rfl) (by kernel_rfl) (fun _ _ _ h=>h) (Or.inl ⟨by rfl,?ty0⟩) hS ?tr0
     case ty0=>
      rintro X ⟨s1,s2,s3,s4,s5,s6,s7,s8⟩;simp only [aN];go_simp;rfl
     simp only [aN,Act.put,aM];refine dU (i:=1) (v:=?tv1) rfl (by kernel_rfl) (by kernel_rfl) (by kernel_rfl) (by kernel_rfl) (fun _ _ _ h=>h) (Or.inl ⟨by rfl,?ty1⟩) hS ?tr1
     case ty1=>
      rintro X ⟨s1,s2,s3,s4,s5,s6,s7,s8⟩;simp only [aN];go_simp;rfl
     simp only [aN,Act.put,aM];refine dU (i:=2) (v:=?tv2) rfl (by kernel_rfl) (by kernel_rfl) (by kernel_rfl) (by kernel_rfl) (fun _ _ _ h=>h) (Or.inl ⟨by rfl,?ty2⟩) hS ?tr2
     case ty2=>
      rintro X ⟨s1,s2,s3,s4,s5,s6,s7,s8⟩;simp only [aN];go_simp;rfl
     simp only [aN,Act.put,aM];refine dU (i:=3) (v:=?tv3) rfl (by kernel_rfl) (by kernel_rfl) (by kernel_rfl) (by kernel_rfl) (fun _ _ _ h=>h) (Or.inl ⟨by rfl,?ty3⟩) hS ?tr3
     case ty3=>
      rintro X ⟨s1,s2,s3,s4,s5,s6,s7,s8⟩;simp only [aN];go_simp;rfl
     simp only [aN,Act.put,aM];refine dU (i:=4) (v:=?tv4) rfl (by kernel_rfl) (by kernel_rfl) (by kernel_rfl) (by kernel_rfl) (fun _ _ _ h=>h) (Or.inl ⟨by rfl,?ty4⟩) hS ?tr4
     case ty4=>
      rintro X ⟨s1,s2,s3,s4,s5,s6,s7,s8⟩;simp only [aN];go_simp;rfl
     simp only [aN,Act.put,aM];refine dU (i:=5) (v:=?tv5) rfl (by kernel_rfl) (by kernel_rfl) (by kernel_rfl) (by kernel_rfl) (fun _ _ _ h=>h) (Or.inl ⟨by rfl,?ty5⟩) hS ?tr5
     case ty5=>
      rintro X ⟨s1,s2,s3,s4,s5,s6,s7,s8⟩;simp only [aN];go_simp;rfl
     simp only [aN,Act.put,aM];refine eG (i:=6) (by kernel_rfl) rfl (fun K6 hK6=>?_);simp only [aN];go_simp;have hba:Below W2.heap.size W2 (W2.alloc (.cells #[.int .i64 tt.kind,.bool tt.mu,.int .i64 tt.reg,.int .i64 tt.elem,.slice A2 tt.flds.length c2] 104)).drew:=((aZ _ _).alloc (bA _) _).drew;have hnew:(W2.alloc (.cells #[.int .i64 tt.kind,.bool tt.mu,.int .i64 tt.reg,.int .i64 tt.elem,.slice A2 tt.flds.length c2] 104)).drew.heap[W2.heap.size]?=some (.cells #[.int .i64 tt.kind,.bool tt.mu,.int .i64 tt.reg,.int .i64 tt.elem,.slice A2 tt.flds.length c2] 104 (0,0)):=heap_alloc_new W2 _;have hS3:(W2.alloc (.cells #[.int .i64 tt.kind,.bool tt.mu,.int .i64 tt.reg,.int .i64 tt.elem,.slice A2 tt.flds.length c2] 104)).drew.heap.size=W2.heap.size+1:=(by simp);generalize (W2.alloc (.cells #[.int .i64 tt.kind,.bool tt.mu,.int .i64 tt.reg,.int .i64 tt.elem,.slice A2 tt.flds.length c2] 104)).drew=W3 at *;rw [hs2] at hnew;have hrow3:=q6.kept (World.grownBy.mk hba.os hba.tape hba.output hba.size (fun k hk _=>hba.block k hk):W2.grownBy W3 none) (by cases hv:v.ownBlock <;> simp);refine hK6.out _ _ (fun _=>⟨cQ hba v1,cQ hba p1,cQ hba y0,cQ hba r1,cQ hba r2,cQ hba r3,cQ hba r4,cQ hba r5⟩) ?_;refine eG (i:=7) (by kernel_rfl) rfl (fun K7 hK7=>?_);simp only [aN];rw [bD (by rfl)];obtain ⟨i0,hi0,hz0,hz1,hz2⟩:=info_parts xEU;have hD3:W0.heap.size<=W3.heap.size:=by omega
     have hl33:ys.length+1<=34:=by
      have h1:=hlen.out;rw [HX.out,bE,bN] at h1;have h2:ys.length=(refsL ts ps pre).length:=(by rw [<- q8,cH]);have h3:=rD ts ps pre;omega
     refine eS (.tmp 34) (.tmp 40) 55 rfl W0.heap.size 104 i0 _ 5 56 Tryz.underlying55 hi0 hz0 hz1 hz2 rfl (by omega) v ys.length (ys.flatMap iX) rfl hrow3 ⟨bn+1,0,none⟩ 1 1 (iX ⟨tt,A2,c2⟩) rfl rfl ?_ ?_ (by simp only [maxLen];omega) (by omega) hD3 ?_
     ·intro j u hj;rw [add0,cell_of_row W3 _ j _ _ _ hnew];simpa [iX] using hj
     ·simp [iX,Value.oneCell']
     intro v' W4 hown4 hg4 hat4;obtain ⟨g4,cap4,rfl⟩:=ownsRow_succ hown4;have ne5:=dQ hrow3 (show w.heap.size+1+1+1+1<W0.heap.size by omega);have ne0:=dQ hrow3 (show w.heap.size<W0.heap.size by omega);have neT:=dQ hrow3 (show bT<W0.heap.size by omega);have nen:=xEI hrow3 (fL hba hn2) (by decide);have k1:=hg4.cell (cQ hba v1) ne5;have k2:=hg4.cell (cQ hba p1) ne0;have k3:=hg4.cell (cQ hba y0) nen;have k4:=hg4.cell (cQ hba r1) neT;have k5:=hg4.cell (cQ hba r2) neT;have k6:=hg4.cell (cQ hba r3) neT;have k7:=hg4.cell (cQ hba r4) neT;have k8:=hg4.cell (cQ hba r5) neT;refine hK7.out _ _ (fun _=>⟨k1,k2,k3,k4,k5,k6,k7,k8⟩) ?_;refine eG (i:=8) (by kernel_rfl) rfl (fun K8 hK8=>?_);simp only [aN,Act.put,aM];have hz4:W4.heap[w.heap.size+1+1+1+1]?=some (.cells #[v] 55 (0,0)):=(hg4.block _ (by omega) ne5).trans (fL hba q5);obtain ⟨u1,u2⟩:=blk1 hz4;rw [bD (by rfl)];go_simp;refine hK8.out _ _ (fun h=>absurd h (by decide)) ?_;refine gP (by kernel_rfl) ?_ _;gi_wp2
     have hkb:Kb (fun k=>k<w.heap.size\/k=w.heap.size+1+1+1+1+1\/k=w.heap.size+1+1+1+1+1+1\/k=w.heap.size+1+1+1+1+1+1+1) W0.heap.size T54 W2 W4:=(Kb.of_below hba).grown hg4 (fun k hk=>by
      have h1:=hrow3.lt k hk;refine ⟨.inl (by omega),.inr (.inr ?_)⟩;rcases hrow3.2 with ⟨rfl,_⟩ | ⟨g',cap',cur',rfl,_,hh',_⟩
      ·simp [Value.ownBlock] at hk
      ·have he:g'=k:=(by simpa [Value.ownBlock] using hk);subst he
       exact ⟨_,_,_,hh',rfl⟩)
     refine ⟨hkb.setLow (p:=⟨w.heap.size+1+1+1+1,0,none⟩) _ (by simp;omega) (by simp;omega),?_⟩;have hbe:Below w.heap.size w W4:=q10.trans (hkb.below (n₀ := w.heap.size) (fun k hk=> .inl hk) q10.size);have bq:=fun k (hk:k<w.heap.size+1+1+1+1+1)=>hg4.block k (by omega) (dQ hrow3 (show k<W0.heap.size by omega))
     refine ⟨fC _ ((bq _ (by omega)).trans (fL hba q1)) (by simp;omega),fC _ ((bq _ (by omega)).trans (fL hba q2)) (by simp),fC _ ((bq _ (by omega)).trans (fL hba q3)) (by simp),fC _ ((bq _ (by omega)).trans (fL hba q4)) (by simp),?_,hgood.out,hbe.setCell (p:=⟨w.heap.size+1+1+1+1,0,none⟩) (by simp;omega) _⟩;refine ⟨ys ++ [⟨tt,A2,c2⟩],_,iJ _ hz4,?_,?_,?_⟩
     ·rw [bE,cI,cC,List.flatMap_singleton];exact dC hown4 (fun k hk _ _=>bJ W4 _ _ k (by simp;omega))
     ·intro y hy;rcases List.mem_append.1 hy with h | h
      ·exact q7 y h
      ·rw [bU] at h;rw [h];exact hnewG
     ·rw [bV,hrefs.out,q8];rfl
    ·have e2:(ps[x.num].kind == 0)=false:=by simp [hkd]
     have hrefs:Hid (refsL ts ps (pre ++ [x])=refsL ts ps pre):=aH (by
      rw [iP,gT,bF hk]
      simp [hkd])
     generalize ps[x.num]=pj at *;clear hkd hps hts herr hidx;gi_wp2
     exact ⟨Kb.refl _ _ _ _,q1,q2,q3,q4,⟨ys,v,q5,q6,q7,by rw [hrefs.out];exact q8⟩,hgood.out,q10⟩
   ·have hd:decide ((x.num:Int)<(ps.length:Int))=false:=by simp;omega
    have hrefs:Hid (refsL ts ps (pre ++ [x])=refsL ts ps pre):=aH (by
     rw [iP,gT,cG (by omega)]
     simp)
    clear hps hts herr hidx;gi_wp2
    exact ⟨Kb.refl _ _ _ _,q1,q2,q3,q4,⟨ys,v,q5,q6,q7,by rw [hrefs.out];exact q8⟩,hgood.out,q10⟩
  ·have e1:(x.err != 0)=true:=by simp [herr]
   have hex:Hid (∃s∈pre ++ [x],s.err≠0):=aH ⟨x,by simp,herr⟩;obtain ⟨v1,v2⟩:=blk1 q3;obtain ⟨v3,v4⟩:=blk1 q4;clear herr;gi_wp2
   exact ⟨((Kb.refl _ _ _ _).setLow (p:=⟨w.heap.size+1+1,0,none⟩) _ (by simp;omega) (by simp;omega)).setLow (p:=⟨w.heap.size+1+1+1,0,none⟩) _ (by simp;omega) (by simp;omega),rfl,
    fC _ (iJ _ q3) (by simp),iJ _ (fC _ q4 (by simp)),(q10.setCell (p:=⟨w.heap.size+1+1,0,none⟩) (by simp;omega) _).setCell (p:=⟨w.heap.size+1+1+1,0,none⟩) (by simp;omega) _,hex.out⟩
 case done=>
  intro D W hD hI hK;obtain ⟨q1,q2,q3,q4,⟨ys,v,q5,q6,q7,q8⟩,q9,q10⟩:=hI
  have href:Hid (refsOf ts ls l ps=(ys.map (·.t),true)):=aH (by
   rw [refsOf,bB (by simpa using q9),q8])
  obtain ⟨A',c',rfl,hsl⟩:=kR q6 (fun y hy=>(q7 y hy).keep q10);obtain ⟨p5,_⟩:=blk1 q5;obtain ⟨p3,p3'⟩:=blk1 q3;obtain ⟨p4,p4'⟩:=blk1 q4;have H6:=aH q6;have H7:=aH q7;clear q6 q7;gi_wp2
  have q6:=H6.out;have q7:=H7.out;have hKD:((W.setCell ⟨w.heap.size+1+1,0,none⟩ (.slice A' ys.length c')).setCell ⟨w.heap.size+1+1+1,0,none⟩ (.bool true)).heap[D]?=some (.deferred (some [])):=fC _ (fC _ hK (by simp;omega)) (by simp;omega);have n3:=fC (p:=⟨w.heap.size+1+1+1,0,none⟩) (.bool true) (iJ (.slice A' ys.length c') q3) (by simp);have n4:=iJ (.bool true) (fC (p:=⟨w.heap.size+1+1,0,none⟩) (.slice A' ys.length c') q4 (by simp));have hbl:Below w.heap.size w ((W.setCell ⟨w.heap.size+1+1,0,none⟩ (.slice A' ys.length c')).setCell ⟨w.heap.size+1+1+1,0,none⟩ (.bool true)):=(q10.setCell (p:=⟨w.heap.size+1+1,0,none⟩) (by simp;omega) _).setCell (p:=⟨w.heap.size+1+1+1,0,none⟩) (by simp;omega) _
  have hown:((W.setCell ⟨w.heap.size+1+1,0,none⟩ (.slice A' ys.length c')).setCell ⟨w.heap.size+1+1+1,0,none⟩ (.bool true)).ownsRow W0.heap.size 104 5 (.slice A' ys.length c') ys.length (ys.flatMap iX):=
   dC (dC q6 (fun k hk _ _=>bJ W _ _ k (by simp;omega))) (fun k hk _ _=>bJ _ _ _ k (by simp;omega))
  generalize (W.setCell ⟨w.heap.size+1+1,0,none⟩ (.slice A' ys.length c')).setCell ⟨w.heap.size+1+1+1,0,none⟩ (.bool true)=W5 at *;refine ⟨by simp,.inl ⟨_,_,rfl,run_takeDeferred (w:=_) hKD,?_⟩⟩;have hT:Turn D T54 W5 (W5.putObj D (.deferred none)):=Turn.putObj _ hKD (bA _) rfl;have n3':=hT.block_low (by omega) n3;have n4':=hT.block_low (by omega) n4;have hbl':=hT.below (by omega) hbl.size hbl;have hown':=hT.grownBy (by decide) hown;generalize W5.putObj D (.deferred none)=W6 at *;obtain ⟨A3,c3,he3,hsl3⟩:=kR hown' (fun y hy=>(q7 y hy).keep hbl');injection he3 with he3 _ he4
  subst he3 he4;rw [href.out];obtain ⟨m3,_⟩:=blk1 n3';obtain ⟨m4,_⟩:=blk1 n4';refine ⟨.tuple #[.slice A' ys.length c',.bool true],?_,A',c',by simp,hsl3,hbl'⟩;simp [results,Tryz.results180,go_sem,m3,m4]
 case stop=>
  rintro D co pre x post W hD hL ⟨rfl,q3,q4,q10,hex⟩ hK
  have href:Hid (refsOf ts ls l ps=([],false)):=aH (by
   obtain ⟨s,hs,he⟩:=hex;rw [refsOf,bD];rw [List.any_eq_true]
   exact ⟨s,by rw [hL];simp at hs ⊢;rcases hs with h | h <;> simp [h],by simpa using he⟩)
  gi_wp2
  refine ⟨by simp,.inl ⟨_,_,rfl,run_takeDeferred (w:=_) hK,?_⟩⟩;have hT:Turn D T54 W (W.putObj D (.deferred none)):=Turn.putObj _ hK (bA _) rfl;have n3':=hT.block_low (by omega) q3;have n4':=hT.block_low (by omega) q4;have hbl':=hT.below (by omega) q10.size q10;generalize W.putObj D (.deferred none)=W6 at *;rw [href.out];obtain ⟨m3,_⟩:=blk1 n3';obtain ⟨m4,_⟩:=blk1 n4';refine ⟨.tuple #[.slice none 0 0,.bool false],?_,none,0,by simp,⟨Sl.nil,by simp,by omega⟩,hbl'⟩;simp [results,Tryz.results180,go_sem,m3,m4]
end
section
open Go.RowKit Go.Shelf
theorem sN (ts:List Ty) (ls:List Lc) (l:Int) (ps:List Pj):(refsOf ts ls l ps).1.length<=33:=by
 unfold refsOf;split
 ·simp
 ·have h1:=uQ ts ls l ps;have h2:=rD ts ps (pth ts ls l ps);simp only [];omega
theorem pI {w A B C:World} (h1:Below A.heap.size A B) (h2:Below B.heap.size B C) (h0:Below w.heap.size w A):Below w.heap.size w C:=(h0.trans (h1.mono h0.size)).trans (h2.mono (cA h0.size h1.size))
theorem lN (ts:List Ty) (ls:List Lc) (l:Int) (ps:List Pj) (A B C:Option Addr) (c d e:Nat) (w:World) (hts:Slc 5 RTy w A c ts) (hls:Slc 2 RLc w B d ls) (hps:Slc 2 RPj w C e ps) (hok:Okay ts ls):
 Calls Tryz.prog 150 #[.slice A ts.length c,.slice B ls.length d,.agg #[.int .i64 l,.slice C ps.length e]] w fun e' w'=>e' = .returned (.bool ((refsOf ts ls l ps).2 && !(refsOf ts ls l ps).1.any notMu))/\Below w.heap.size w w':=by
 have hR:=aH (rC ts ls l ps A B C c d e (w.alloc (.cells #[.int .i64 l,.slice C ps.length e] 36)) (hts.keep RTy.keeps ((aZ _ _).alloc (bA _) _)) (hls.keep RLc.keeps ((aZ _ _).alloc (bA _) _)) (hps.keep RPj.keeps ((aZ _ _).alloc (bA _) _)) hok);clear hts hls hps hok;generalize refsOf ts ls l ps=q at hR ⊢;obtain ⟨us,ok⟩:=q;go_enter Tryz.func150,Tryz.ntmps150
 go_wp2_with (first
  | (go_at_call 180;refine hR.out.mono ?_;rintro e' w' ⟨A',c',rfl,hs',hb⟩)
  | (go_at_call 181;refine (oW _ _ _ _ hs').mono ?_;rintro e' w2 ⟨rfl,hb2⟩))
 all_goals
  go_ret;first
  | exact ⟨by simp_all,pI hb hb2 ((aZ _ _).alloc (bA _) _)⟩
  | exact ⟨by simp_all,pI hb (aZ _ _) ((aZ _ _).alloc (bA _) _)⟩
theorem dL {W:World} {base:Nat} {e:TypeId} {v:Value} {ys:List Int} (h:W.ownsRow base e 1 v ys.length (ys.map (Value.int .i64))):
 ∃A c,v = .slice A ys.length c/\Slc 1 RInt W A c ys:=by
 rcases h.2 with ⟨rfl,hn⟩ | ⟨g,cap,cur,rfl,hb,hh,hnc,hm,_,_⟩
 ·have:ys=[]:=bW hn;subst this;exact ⟨none,0,rfl,Sl.nil,by simp,by omega⟩
 ·refine ⟨some ⟨g,0,none⟩,cap,rfl,⟨fun _=>⟨g,0,rfl,(Array.getElem?_eq_some_iff.1 hh).1,fun i x hx=>?_⟩,by simpa using hnc,by simp only [maxLen] at hm;omega⟩⟩;have hc:=h.cells (g:=g) rfl i (.int .i64 x) (by rw [cP,hx];rfl);rw [add0] at hc;simpa [RInt] using hc
theorem dV:(Tryz.prog.info? 3).map (fun i=>(i.zero,i.size,i.bytes))=some (some (.int .i64 0),1,8):=by kernel_rfl
theorem pT (ts:List Ty) (ls:List Lc) (l:Int) (ps:List Pj) (A B C:Option Addr) (c d e:Nat) (w:World) (hts:Slc 5 RTy w A c ts) (hls:Slc 2 RLc w B d ls) (hps:Slc 2 RPj w C e ps) (hok:Okay ts ls):
 Calls Tryz.prog 183 #[.slice A ts.length c,.slice B ls.length d,.agg #[.int .i64 l,.slice C ps.length e]] w fun e' w'=>∃A' c',e' = .returned (.slice A' (refsOf ts ls l ps).1.length c')/\Slc 1 RInt w' A' c' ((refsOf ts ls l ps).1.map (·.reg))/\Below w.heap.size w w':=by
 have hR:=aH (rC ts ls l ps A B C c d e (w.alloc (.cells #[.int .i64 l,.slice C ps.length e] 36)) (hts.keep RTy.keeps ((aZ _ _).alloc (bA _) _)) (hls.keep RLc.keeps ((aZ _ _).alloc (bA _) _)) (hps.keep RPj.keeps ((aZ _ _).alloc (bA _) _)) hok);have hlen:=aH (sN ts ls l ps);clear hts hls hps hok;generalize refsOf ts ls l ps=q at hR hlen ⊢;obtain ⟨us,ok⟩:=q;go_enter Tryz.func183,Tryz.ntmps183
 go_wp2_with (go_at_call 180;refine hR.out.mono ?_;rintro e' w1 ⟨A',c',rfl,hs',hb⟩)
 obtain ⟨i0,hi,hz0,hz1,hz2⟩:=info_parts dV;have hbw:Below w.heap.size w w1:=((aZ _ _).alloc (bA _) _).trans (hb.mono (by simp));have hlen:=aH (show us.length<=33 from hlen.out);clear hR hb;have hle:=hs'.le;have hbig:=hs'.big;go_loopw [7,21] (fun v i wr=>∃k:Nat,k<=us.length/\i = .int .i64 k/\wr.ownsRow w1.heap.size 3 1 v k ((us.map (fun t=>Value.int .i64 t.reg)).take k)/\Below w1.heap.size w1 wr) (fun _ i _=>us.length - (intOf i).toNat)
 case atStart=>exact ⟨0,by omega,rfl,World.ownsRow_nil _ _ _ _,aZ _ _⟩
 case round=>
  obtain ⟨k,hk,rfl,hown,hB⟩:=hrel;by_cases hlt:k<us.length
  ·have hL:=hlen.out;obtain ⟨bT,oT,rfl,hbT,hrT⟩:=hs'.sl.at_ hlt;obtain ⟨r1,r2,r3,r4,A2,c2,r5,r6,r7,r8⟩:=RTy.keeps _ _ _ w1.heap.size _ _ _ (bA _) hbT hB hrT
   have htk:Hid ((us.map (fun t=>Value.int .i64 t.reg)).take (k+1)=(us.map (fun t=>Value.int .i64 t.reg)).take k ++ [.int .i64 us[k].reg]):=aH (by
    rw [bH (by simpa using hlt)]
    simp)
   generalize us[k]=tt at *;clear hrT r8;have hown2:=(hown.alloc (.cells #[.int .i64 tt.kind,.bool tt.mu,.int .i64 tt.reg,.int .i64 tt.elem,.slice A2 tt.flds.length c2] 104)).alloc (.cells #[.int .i64 tt.reg] 3);have hsz:=hB.size;go_wp2_with (at_builtin;refine wpList_append_own _ rfl _ _ 48 rfl w1.heap.size 3 i0 (.int .i64 0) 1 8 Tryz.underlying48 hi hz0 hz1 hz2 rfl (by decide) _ _ _ rfl hown2 ⟨wr.heap.size+1,0,none⟩ 1 1 [.int .i64 tt.reg] rfl rfl ?c1 ?c2 ?c3 ?c4 ?c5 ?_)
   try (case c1=>
    intro j u hj;match j,hj with
    | 0,hj=>
      simp at hj;subst hj;rw [add0]
      go_simp)
   case c2=>first | rfl | (intro u hu;simp at hu;subst hu;rfl)
   case c3=>unfold maxLen;omega
   case c4=>omega
   case c5=>simp;omega
   intro v' w2 hown' hgrow _;have hown3:w2.ownsRow w1.heap.size 3 1 v' (k+1) ((us.map (fun t=>Value.int .i64 t.reg)).take (k+1)):=by rw [htk.out];exact hown'
   have hB2:Below w1.heap.size w1 w2:=by
    have hx:Below w1.heap.size w1 ((wr.alloc (.cells #[.int .i64 tt.kind,.bool tt.mu,.int .i64 tt.reg,.int .i64 tt.elem,.slice A2 tt.flds.length c2] 104)).alloc (.cells #[.int .i64 tt.reg] 3)):=(hB.alloc hsz _).alloc (by simp;omega) _;exact hx.grown hgrow (by simp;omega) (fun g hg=>(hown2.lt g hg).1)
   clear hown' hgrow hown hown2 hB r1 r2 r3 r4 r5;go_wp2
   go_roundw
   case rel=>exact ⟨k+1,by omega,by simp,hown3,hB2⟩
   case measure=>simp [intOf];omega
  ·have hlt2:¬((k:Int)<(us.length:Int)):=by omega
   have hke:k=us.length:=by omega
   subst hke
   have hown2:wr.ownsRow w1.heap.size 3 1 u7 (us.map (·.reg)).length ((us.map (·.reg)).map (Value.int .i64)):=by
    have h:=hown;rw [List.take_of_length_le (by simp)] at h;rwa [cH,List.map_map]
   obtain ⟨A2,c2,rfl,hsl⟩:=dL hown2;rw [cH] at *;have hsl2:=aH hsl;clear hown hown2 hsl;go_wp2
   go_ret;exact ⟨A2,c2,rfl,hsl2.out,hbw.trans (hB.mono hbw.size)⟩
theorem xX (ts:List Ty) (i:Int) (k:Nat) (ps:List Pj):walkS ts i k ps≠[]:=by cases ps <;> simp [walkS]
theorem xZ {ts:List Ty} {ls:List Lc} {l:Int} {ps:List Pj} (h:chk l ps≠0):tyOf ts ls l ps=(0,chk l ps):=by
 simp [tyOf,pth,h,lastS]
theorem xH {l:Int} {ps:List Pj} (h:chk l ps=0):0<=l/\ps.length<=32:=by
 unfold chk at h;grind
theorem xY {ts:List Ty} {ls:List Lc} {l:Int} {ps:List Pj} (h:chk l ps=0) (hl:(ls.length:Int)<=l):tyOf ts ls l ps=(0,3):=by
 have:=xH h;simp [tyOf,pth,h,lastS,cG (show ls.length<=l.toNat by omega)]
theorem kP {ts:List Ty} {ls:List Lc} (hok:Okay ts ls) {l:Int} {ps:List Pj} (h:(tyOf ts ls l ps).2=0):0<=(tyOf ts ls l ps).1/\(tyOf ts ls l ps).1<ts.length:=by
 have hp:=xBH hok l ps;unfold tyOf lastS at *;cases hg:(pth ts ls l ps).getLast? with
 | none=>
   rw [List.getLast?_eq_none_iff] at hg;unfold pth at hg;split at hg
   ·cases hg
   ·split at hg
    ·cases hg
    ·exact absurd hg (xX _ _ _ _)
 | some s=>
   rw [hg] at h;exact hp s (List.mem_of_getLast? hg) h
theorem oD {ts:List Ty} {ls:List Lc} {l:Int} {ps:List Pj} (h:(tyOf ts ls l ps).2=0):chk l ps=0/\0<=l/\l<ls.length:=by
 have hc:chk l ps=0:=by
  apply Classical.byContradiction
  intro hc;rw [xZ hc] at h;exact hc h
 refine ⟨hc,(xH hc).1,?_⟩;apply Classical.byContradiction
 intro hl;rw [xY hc (by omega)] at h;cases h
end
section
open Go Go.RowKit
section
variable {P:Program} {ops:Array Oper} {Q:Exit->Act->World->Prop} {S:World->Prop}
def lst (n k:Nat):Array Bool:=((List.replicate k true) ++ (List.replicate (n - k) false)).toArray
theorem rU {n k:Nat} (h:k<n):(lst n k).setIfInBounds k true=lst n (k+1):=by
 unfold lst;rw [show n - k=(n - (k+1))+1 by omega,List.replicate_succ];simp only [List.setIfInBounds_toArray,List.replicate_succ'];congr 1
 rw [List.set_append_right _ _ (by simp)];simp
def wpK (P:Program) (ops:Array Oper) (Q:Exit->Act->World->Prop) (S:World->Prop) (k:Nat) (a:Act) (w:World):Prop:=
 wpAnyM P .any ops Q S ops.size (ops.size - k) (lst ops.size k) a w
def okK (ops:Array Oper) (k:Nat):Bool:=
 decide (k<ops.size) && Region.noSelect ops && Region.free .any ops (lst ops.size k) k && lateB .any ops ops.size (lst ops.size k) k && (Region.ready .any ops (lst ops.size k)).contains k
theorem dG {k:Nat} {v:Value} {a:Act} {w:World} (hok:okK ops k=true) (hQ:∀c a w,Q (.panic c) (a.put ((ops[k]?).getD default).dst v) w->Q (.panic c) a w)
 (hy:YieldsIf P ops S ((ops[k]?).getD default) v a) (hS:S w) (h:wpK P ops Q S (k+1) (a.put ((ops[k]?).getD default).dst v) w):wpK P ops Q S k a w:=by
 simp only [okK,bR,decide_eq_true_eq] at hok;obtain ⟨⟨⟨⟨hk,h1⟩,h2⟩,h3⟩,h4⟩:=hok;have ho:ops[k]?=some ((ops[k]?).getD default):=by rw [Array.getElem?_eq_getElem hk];rfl
 unfold wpK at h ⊢;rw [show ops.size - k=(ops.size - (k+1))+1 by omega];refine dU ho h1 h2 h3 h4 hQ hy hS ?_;rw [rU hk];exact h
def oneK (ops:Array Oper) (k:Nat):Bool:=decide (k<ops.size) && decide (Region.ready .any ops (lst ops.size k)=[k])
theorem pL {k:Nat} {a:Act} {w:World} (hok:oneK ops k=true)
 (h:∀K':Act->World->Prop,Shut (∀a w,(k<ops.size->S w)->wpK P ops Q S (k+1) a w->K' a w)->if Region.wanted ((ops[k]?).getD default) (yielded ops a.tmps)=true then Oper.wp P ((ops[k]?).getD default) a w K' Q else K' (a.put ((ops[k]?).getD default).dst undef) w):
 wpK P ops Q S k a w:=by
 simp only [oneK,bR,decide_eq_true_eq] at hok;obtain ⟨hk,h1⟩:=hok;have ho:ops[k]?=some ((ops[k]?).getD default):=by rw [Array.getElem?_eq_getElem hk];rfl
 unfold wpK;rw [show ops.size - k=(ops.size - (k+1))+1 by omega];refine eG h1 ho (fun K' hK=>h K' (fun a w hs hw=>hK a w hs ?_));rw [rU hk];exact hw
theorem eO {a:Act} {w:World} {k:Nat} (hk:ops.size=k) (h:Q .normal a w):wpK P ops Q S k a w:=by
 unfold wpK;refine gP ?_ h _;subst hk;unfold Region.ready;rw [List.filter_eq_nil_iff];intro i hi;have hlt:i<ops.size:=by simpa using hi
 simp [lst,hlt]
theorem eC {id:Nat} {a:Act} {w:World} (hm:P.follows .mixedOrders=true) (h:wpK P ops Q S 0 a w.drew):(Code.region id ops true).wp P Q a w:=by
 refine kL (S:=S) (t:=ops.size) hm ?_;have:Array.replicate ops.size false=lst ops.size 0:=by simp [lst]
 rw [this];exact h
theorem tJ {id:Nat} {a:Act} {w:World} {r m:Nat} (hm:P.follows .mixedOrders=true) (hnd:iS ops=true) (hout:¬LetsOut Q) (h:wpK P ops Q S 0 a w.drew):
 (Code.region id ops true).wpIn (Fence.wide.inRound r) m P Q a w:=by
 refine tI (S:=S) (t:=ops.size) hm hnd hout ?_;have:Array.replicate ops.size false=lst ops.size 0:=by simp [lst]
 rw [this];exact h
def lstO (n:Nat) (ord:List Nat) (k:Nat):Array Bool:=((List.range n).map (fun i=>(ord.take k).contains i)).toArray
theorem fV {n k:Nat} {ord:List Nat} (hk:k<ord.length):(lstO n ord k).setIfInBounds (ord.getD k 0) true=lstO n ord (k+1):=by
 have hg:ord.getD k 0=ord[k]:=by simp [hk]
 rw [hg];apply Array.ext
 ·simp [lstO]
 ·intro i h1 h2;have hi:i<n:=by simpa [lstO] using h1
  have ht:ord.take (k+1)=ord.take k ++ [ord[k]]:=bH hk;rw [Array.getElem_setIfInBounds (by simpa [lstO] using hi)];simp only [lstO,List.getElem_toArray,List.getElem_map,List.getElem_range,ht];by_cases he:ord[k]=i
  ·simp [he]
  ·rw [bB he];rw [bS];simp only [List.contains_iff_mem,cL,bU];exact ⟨fun h=> .inl h,fun h=>h.resolve_right (fun e=>he e.symm)⟩
def wpO (P:Program) (ops:Array Oper) (Q:Exit->Act->World->Prop) (S:World->Prop) (t:Nat) (ord:List Nat) (k:Nat) (a:Act) (w:World):Prop:=
 wpAnyM P .any ops Q S t (ops.size - k) (lstO ops.size ord k) a w
def okO (ops:Array Oper) (t:Nat) (ord:List Nat) (k:Nat):Bool:=
 decide (k<ord.length) && decide (k<ops.size) && decide (ord.getD k 0<ops.size) && Region.noSelect ops && Region.free .any ops (lstO ops.size ord k) (ord.getD k 0) && lateB .any ops t (lstO ops.size ord k) (ord.getD k 0) && (Region.ready .any ops (lstO ops.size ord k)).contains (ord.getD k 0)
theorem nA {t:Nat} {ord:List Nat} {k:Nat} {v:Value} {a:Act} {w:World} (hok:okO ops t ord k=true) (hQ:∀c a w,Q (.panic c) (a.put ((ops[ord.getD k 0]?).getD default).dst v) w->Q (.panic c) a w)
 (hy:YieldsIf P ops S ((ops[ord.getD k 0]?).getD default) v a) (hS:S w) (h:wpO P ops Q S t ord (k+1) (a.put ((ops[ord.getD k 0]?).getD default).dst v) w):wpO P ops Q S t ord k a w:=by
 simp only [okO,bR,decide_eq_true_eq] at hok;obtain ⟨⟨⟨⟨⟨⟨h0,hk0⟩,hk⟩,h1⟩,h2⟩,h3⟩,h4⟩:=hok;have ho:ops[ord.getD k 0]?=some ((ops[ord.getD k 0]?).getD default):=by rw [Array.getElem?_eq_getElem hk];rfl
 unfold wpO at h ⊢;rw [show ops.size - k=(ops.size - (k+1))+1 by omega];refine dU ho h1 h2 h3 h4 hQ hy hS ?_;rw [fV h0];exact h
theorem cY {t:Nat} {ord:List Nat} {k:Nat} {v:Value} {a:Act} {w:World} (hy:∀w,S w->(execOp a.eval ((ops[ord.getD k 0]?).getD default)).run P w = .ok (.value v) w) (hS:S w)
 (h:wpO P ops Q S t ord (k+1) (a.put ((ops[ord.getD k 0]?).getD default).dst v) w) (hok:okO ops t ord k=true:=by kernel_rfl)
 (hw:Region.wanted ((ops[ord.getD k 0]?).getD default) (yielded ops a.tmps)=true:=by rfl) (hQ:∀c a w,Q (.panic c) (a.put ((ops[ord.getD k 0]?).getD default).dst v) w->Q (.panic c) a w:=by exact fun _ _ _ h=>h):wpO P ops Q S t ord k a w:=
 nA hok hQ (Or.inl ⟨hw,hy⟩) hS h
def oneO (ops:Array Oper) (ord:List Nat) (k:Nat):Bool:=decide (k<ord.length) && decide (k<ops.size) && decide (ord.getD k 0<ops.size) && decide (Region.ready .any ops (lstO ops.size ord k)=[ord.getD k 0])
theorem xBW {t:Nat} {ord:List Nat} {k:Nat} {a:Act} {w:World} (hok:oneO ops ord k=true)
 (h:∀K':Act->World->Prop,Shut (∀a w,(ord.getD k 0<t->S w)->wpO P ops Q S t ord (k+1) a w->K' a w)->if Region.wanted ((ops[ord.getD k 0]?).getD default) (yielded ops a.tmps)=true then Oper.wp P ((ops[ord.getD k 0]?).getD default) a w K' Q else K' (a.put ((ops[ord.getD k 0]?).getD default).dst undef) w):
 wpO P ops Q S t ord k a w:=by
 simp only [oneO,bR,decide_eq_true_eq] at hok;obtain ⟨⟨⟨h0,hk0⟩,hk⟩,h1⟩:=hok;have ho:ops[ord.getD k 0]?=some ((ops[ord.getD k 0]?).getD default):=by rw [Array.getElem?_eq_getElem hk];rfl
 unfold wpO;rw [show ops.size - k=(ops.size - (k+1))+1 by omega];refine eG h1 ho (fun K' hK=>h K' (fun a w hs hw=>hK a w hs ?_));rw [fV h0];exact hw
theorem xV {t:Nat} {ord:List Nat} {a:Act} {w:World} {k:Nat} (hk:decide (Region.ready .any ops (lstO ops.size ord k)=[])=true) (h:Q .normal a w):wpO P ops Q S t ord k a w:=
 gP (by simpa using hk) h _
theorem cX {t:Nat} {ord:List Nat} {k:Nat} {a:Act} {w:World} (h:∀K':Act->World->Prop,Shut (∀a w,(ord.getD k 0<t->S w)->wpO P ops Q S t ord (k+1) a w->K' a w)->if Region.wanted ((ops[ord.getD k 0]?).getD default) (yielded ops a.tmps)=true then Oper.wp P ((ops[ord.getD k 0]?).getD default) a w K' Q else K' (a.put ((ops[ord.getD k 0]?).getD default).dst undef) w) (hok:oneO ops ord k=true:=by kernel_rfl):wpO P ops Q S t ord k a w:=xBW hok h
theorem dI {t:Nat} {ord:List Nat} {a:Act} {w:World} {k:Nat} (h:Q .normal a w) (hk:decide (Region.ready .any ops (lstO ops.size ord k)=[])=true:=by kernel_rfl):wpO P ops Q S t ord k a w:=xV hk h
theorem dJ {id:Nat} {a:Act} {w:World} (t:Nat) (ord:List Nat) (hm:P.follows .mixedOrders=true) (h:wpO P ops Q S t ord 0 a w.drew):(Code.region id ops true).wp P Q a w:=by
 refine kL (S:=S) (t:=t) hm ?_
 have:Array.replicate ops.size false=lstO ops.size ord 0:=by
  apply Array.ext
  ·simp [lstO]
  ·intro i h1 h2;simp [lstO]
 rw [this];exact h
theorem cZ {id:Nat} {a:Act} {w:World} (ord:List Nat) (hm:P.follows .mixedOrders=true) (h:wpO P ops Q S ops.size ord 0 a w.drew):(Code.region id ops true).wp P Q a w:=dJ ops.size ord hm h
end
end
end Go.Proofs.YtkaigkfbkpinlaaGreatDoor
