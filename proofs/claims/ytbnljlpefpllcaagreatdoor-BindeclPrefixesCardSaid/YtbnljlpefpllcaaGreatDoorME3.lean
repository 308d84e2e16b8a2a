/-
  Parts of the proof: P1 P2 Take P3 P4 W2.
-/
import Derived.Test.YtbnljlpefpllcaaGreatDoorME0
import Derived.Test.YtbnljlpefpllcaaGreatDoorME1
import Derived.Test.YtbnljlpefpllcaaGreatDoorME2
import Derived.Lib.SliceRun
namespace Go.Proofs.YtbnljlpefpllcaaGreatDoor
set_option maxRecDepth 100000
set_option maxHeartbeats 16000000
section
open Go Go.RowKit
theorem lM:(Tryz.prog.info? 5).map (fun i=>(i.zero,i.size,i.bytes))=some (some (.int .u8 0),1,1):=by kernel_rfl
def encB (c:UInt8):Value:= .int .u8 c.toNat
theorem eW {α : Type} {enc : α → Value} {R:Rd α} (hR:∀(w:World) (B b o:Nat) (x : α),w.cell? ⟨b,o,none⟩=some (enc x)→R w B b o x) {w:World} {base n:Nat} {e:TypeId} {v:Value} {xs:List α}
 (h:w.ownsRow base e 1 v n (xs.map enc)) (hn:xs.length=n):∃A c,v = .slice A n c∧Slc 1 R w A c xs∧(∀a,A=some a→base≤a.block∧a.block<w.heap.size):=by
 subst hn
 have h0:=h
 rcases h.2 with ⟨rfl,hz⟩ | ⟨g,cap,cur,rfl,hg,hh,hnc,hm,_,_⟩
 ·have:xs=[]:=List.length_eq_zero_iff.1 (by omega)
  subst this
  exact ⟨none,0,rfl,⟨Sl.nil,by simp,by omega⟩,fun a h=>by cases h⟩
 ·have hgl:=(Array.getElem?_eq_some_iff.1 hh).1
  refine ⟨some ⟨g,0,none⟩,cap,rfl,⟨fun _=>⟨g,0,rfl,hgl,fun i x hx=>?_⟩,by simpa using hnc,by simp only [maxLen] at hm;omega⟩,fun a ha=>?_⟩
  ·have hc:=h0.cells (g:=g) rfl i (enc x) (by rw [cO,hx];rfl)
   rw [add0] at hc
   exact hR w _ g _ x (by simpa using hc)
  ·injection ha with ha
   subst ha
   exact ⟨hg,hgl⟩
theorem mN (l:List UInt8) (A:Option Addr) (c:Nat) (w:World) (hs:Slc 1 RB w A c l) (hl:l.length≤1000000):
 Calls Tryz.prog 85 #[.slice A l.length c] w fun e' w'=>∃A' c',e' = .returned (.slice A' l.length c')∧Slc 1 RB w' A' c' l∧(∀a,A'=some a→w.heap.size≤a.block∧a.block<w'.heap.size)∧Below w.heap.size w w':=by
 obtain ⟨i0,hi,hz0,hz1,hz2⟩:=info_parts lM
 have q22:∀(w:World) (a:Option Addr) (n c n' c':Nat),(binOp .eql 34 (.slice a n c) (.slice none n' c')).run Tryz.prog w = .ok (.bool a.isNone) w:=fun w a n c n' c'=>Lib.run_eql_slice_nil w _ _ a n c n' c' Tryz.underlying34
 cases A with
 | none=>
   have h0:l.length=0:=by
    rcases Nat.eq_zero_or_pos l.length with h | h
    ·exact h
    ·obtain ⟨b,o,he,_⟩:=hs.sl h
     cases he
   have:l=[]:=List.length_eq_zero_iff.1 h0
   subst this
   clear hs
   go_enter Tryz.func85,Tryz.ntmps85
   go_wp2
   go_ret
   exact ⟨none,0,rfl,⟨Sl.nil,by simp,by omega⟩,(fun a h=>by cases h),aV _ _⟩
 | some a=>
   have HS:=aF hs
   have hle:=hs.le
   have hbg:=hs.big
   have HA:Hid (∀(j:Nat) (u:Value),(l.map encB)[j]?=some u→(w.alloc (.cells #[] 5)).cell? (a.add j)=some u):=aF (fun j u hj=>by
    have hjl:j<l.length:=by
     have:=(List.getElem?_eq_some_iff.1 hj).1
     simpa using this
    obtain ⟨b,o,he,hb,hx⟩:=hs.sl (by omega)
    injection he with he
    subst he
    rw [Addr.add_lit]
    refine cell_keep ((aV _ _).alloc (aW _) _) ?_
    have:=hx j l[j] (bB hjl)
    rw [cO,bB hjl] at hj
    injection hj with hj
    subst hj
    simpa [RB,encB] using this)
   clear hs
   go_enter Tryz.func85,Tryz.ntmps85
   go_wp2_with (at_builtin;refine wpList_append_own _ rfl _ _ 34 rfl w.heap.size 5 i0 (.int .u8 0) 1 1 Tryz.underlying34 hi hz0 hz1 hz2 rfl (by decide) _ _ _ rfl (World.ownsRow_made w #[] 0 (aW _) (Nat.zero_le _) rfl) a l.length c (l.map encB) rfl ?qc1 ?qc2 ?qc3 ?qc4 ?qc5 ?qc6 ?_)
   case qc1=>simp
   case qc2=>exact HA.out
   case qc3=>intro u hu;obtain ⟨x,_,rfl⟩:=List.mem_map.1 hu;rfl
   case qc4=>unfold maxLen;omega
   case qc5=>omega
   case qc6=>simp
   intro v' w1 hown hgrow hnil
   have hown2:w1.ownsRow w.heap.size 5 1 v' l.length (l.map encB):=by simpa using hown
   obtain ⟨A',c',rfl,hs',hb'⟩:=eW (R:=RB) (fun w B b o x h=>h) hown2 rfl
   have HS':=aF hs'
   have HB':=aF hb'
   have HBel:Hid (Below w.heap.size w w1):=aF (((aV _ w).alloc (aW _) _).grown hgrow (by simp) (by intro k hk;simp [Value.ownBlock] at hk;omega))
   clear hown hown2 hgrow hs' hb' hnil
   go_wp2
   go_ret
   exact ⟨A',c',rfl,HS'.out,HB'.out,HBel.out⟩
def PRd (w:World) (g:Nat) (s:Rs):Prop:=∃(all:List UInt8) (A:Option Addr) (c k:Nat),w.heap[g]?=some (.cells #[.slice A all.length c,.int .i64 k,.int .i64 s.err] 153)∧Slc 1 RB w A c all∧
 (∀a,A=some a→a.block<g)∧k≤all.length∧all.length≤1000000∧(s.err=0→s.rest=all.drop k)
theorem PRd.keep {w w':World} {g:Nat} {s:Rs} (h:PRd w g s) (hb:Below w.heap.size w w'):PRd w' g s:=by
 obtain ⟨all,A,c,k,hg,hs,hne,hk⟩:=h
 exact ⟨all,A,c,k,(hb.block g (Array.getElem?_eq_some_iff.1 hg).1).trans hg,hs.keep RB.keeps hb,hne,hk⟩
theorem xT {w w':World} {A:Option Addr} {c g:Nat} {l:List UInt8} (h:Slc 1 RB w A c l) (hA:∀a,A=some a→0<l.length→a.block<g) (hsz:w.heap.size≤w'.heap.size) (hb:∀k,k<g→w'.heap[k]?=w.heap[k]?):Slc 1 RB w' A c l:=by
 refine ⟨fun hp=>?_,h.le,h.big⟩
 obtain ⟨b,o,rfl,hlt,hx⟩:=h.sl hp
 refine ⟨b,o,rfl,bN hlt hsz,fun i x hi=>?_⟩
 have:=hx i x hi
 exact (World.cell?_of_block (hb b (hA _ rfl hp))).trans this
theorem PRd.low {w w':World} {g:Nat} {s:Rs} (h:PRd w g s) (hsz:w.heap.size≤w'.heap.size) (hb:∀k,k≤g→w'.heap[k]?=w.heap[k]?):PRd w' g s:=by
 obtain ⟨all,A,c,k,hg,hs,hne,hk⟩:=h
 exact ⟨all,A,c,k,(hb g (aW _)).trans hg,xT hs (fun a h _=>hne a h) hsz (fun k hk=>hb k (by omega)),hne,hk⟩
theorem RRd.low {w w':World} {g:Nat} {s:Rs} (h:RRd w g s) (hsz:w.heap.size≤w'.heap.size) (hb:∀k,k≤g→w'.heap[k]?=w.heap[k]?):RRd w' g s:=by
 obtain ⟨A,c,hg,hs,hne⟩:=h
 exact ⟨A,c,(hb g (aW _)).trans hg,xT hs hne hsz (fun k hk=>hb k (by omega)),hne⟩
theorem PRd.err {w:World} {g:Nat} {s:Rs} (h:PRd w g s):w.cell? ⟨g,2,none⟩=some (.int .i64 s.err):=by
 obtain ⟨all,A,c,k,hg,_⟩:=h
 simp [World.cell?,hg]
theorem PRd.lt {w:World} {g:Nat} {s:Rs} (h:PRd w g s):g<w.heap.size:=by
 obtain ⟨all,A,c,k,hg,_⟩:=h
 exact (Array.getElem?_eq_some_iff.1 hg).1
theorem xCR (l:List UInt8) (A:Option Addr) (c:Nat) (w:World) (hs:Slc 1 RB w A c l) (hl:l.length≤1000000):
 Calls Tryz.prog 41 #[.slice A l.length c] w fun e' w'=>∃g,e' = .returned (.pointer (some ⟨g,0,none⟩))∧w.heap.size≤g∧PRd w' g ⟨l,0⟩∧Below w.heap.size w w':=by
 have HC:=aF (mN l A c w hs hl)
 clear hs
 go_enter Tryz.func41,Tryz.ntmps41
 go_wp2_with (go_at_call 85;refine HC.out.mono ?_;rintro e' w1 ⟨A',c',rfl,hs1,hb1,hbel⟩;have HS1:=aF hs1;have HB1:=aF hb1;have HBel:=aF hbel;clear hs1 hb1 hbel)
 go_ret
 refine ⟨w1.heap.size,rfl,HBel.out.size,⟨l,A',c',0,heap_alloc_new _ _,HS1.out.keep RB.keeps ((aV _ _).alloc (aW _) _),fun a ha=>?_,by omega,hl,fun _=>rfl⟩,HBel.out.alloc HBel.out.size _⟩
 exact (HB1.out a ha).2
end
section
open Go Go.RowKit
attribute [local go_sem] Oper.semAt_some
def encG (x:Nat × UInt8):Array Value:= #[.int .i64 x.1,.int .u8 x.2.toNat]
theorem wL (A:Option Addr) (n c:Nat) (w:World):
 Calls Tryz.prog 188 #[.slice A n c] w fun e' w'=>e' = .returned (.func (.func 221) #[] #[.pointer (some ⟨w.heap.size,0,none⟩)])∧w'=w.alloc (.cells #[.slice A n c] 34):=by
 go_enter Tryz.func188,Tryz.ntmps188
 go_wp2
 go_ret
 exact ⟨rfl,rfl⟩
theorem xGG (n:Nat) (hn:1≤n) (l:List UInt8) (A:Option Addr) (c bb:Nat) (w0 w:World) (hw:Below w0.heap.size w0 w) (h1:w.cell? ⟨bb,0,none⟩=some (.slice A l.length c)) (hs:Slc 1 RB w0 A c l):
 SeqL Fence.wide n Tryz.prog 221 #[.pointer (some ⟨bb,0,none⟩)] encG (fun _=>false) (fun k=>k<w0.heap.size) (grpL 0 l) w:=by
 intro lp J Jx W hW hJ hJx hY h0
 have q1:=cell_keep hW h1
 have hle:=hs.le
 have hbg:=hs.big
 have HS:=aF hs
 have HB:Hid (Below w0.heap.size w0 W):=aF (hw.trans (hW.mono hw.size))
 obtain ⟨L,hL⟩:∃L,grpL 0 l=L:=⟨_,rfl⟩
 rw [hL] at hY ⊢
 have HL:=aF hL
 clear hs hL h1
 (refine callsIn_of_wp Tryz.func221 rfl trivial ?_ rfl;simp only [Tryz.ntmps221,List.size_toArray,bJ,bO,Nat.reduceAdd,Nat.reduceSub,Array.replicate_succ,Array.replicate_zero,List.push_toArray,List.append_toArray,List.nil_append,List.cons_append])
 gi_wp2
 gi_loopw [7] (fun v wr=>∃(k:Nat) (pre:List (Nat × UInt8)),k≤l.length∧v = .int .i64 k∧Below w0.heap.size w0 wr∧J pre wr∧W.heap.size≤wr.heap.size∧Hid (L=pre ++ grpL k (l.drop k))) (fun v _=>l.length+1 - (intOf v).toNat)
 case atStart=>exact ⟨0,[],by omega,rfl,HB.out,h0,aW _,aF HL.out.symm⟩
 case round=>
  obtain ⟨k,pre,hk,rfl,hB,hJp,hsz,hA⟩:=hrel
  by_cases hlt:k<l.length
  ·have hd:l.drop k=l[k] :: l.drop (k+1):=cI hlt
   obtain ⟨b,o,rfl,hb',x0⟩:=HS.out.sl.at_ hlt
   have x1:=RB.keeps _ _ _ w0.heap.size _ _ _ (aW _) hb' hB x0
   generalize l[k]=c0 at *
   have x0':wr.cell? ⟨b,o+k,none⟩=some (.int .u8 c0.toNat):=by simpa [RB] using x1
   rw [hd,jI] at hA
   obtain ⟨fn,tmps,assign,body,hy,hR⟩:=hY pre ⟨k,c0⟩ _ wr hA.out hJp
   rw [show encG ⟨k,c0⟩ = #[.int .i64 (k:Int),.int .u8 (c0.toNat:Int)] from rfl] at hy
   clear x0 x1 hd
   gi_wp2
   refine hR.mono ?_
   clear hy hR x0'
   rintro e W3 (⟨rfl,hJ3,hk3⟩ | ⟨rfl,hJx3⟩)
   ·have hB3:=hB.trans (hk3.below (n₀ := w0.heap.size) (fun k hk=>hk) hB.size)
    have hs3:=hk3.size
    have HB3:=aF hB3
    clear hB hk3 hJp h0 hB3
    by_cases hc:c0.toNat<128
    ·rw [aY hc] at hA
     have hc':(c0.toNat:Int)<128:=by omega
     gi_wp2
     refine bodyPost_ret (results_none rfl _ _ _) rfl ?_
     exact ⟨⟨_,rfl⟩,.inl (by rw [hA.out];exact hJ3)⟩
    ·rw [aX hc] at hA
     have hc':¬(c0.toNat:Int)<128:=by omega
     gi_wp2
     go_roundw
     case rel=>exact ⟨k+1,pre ++ [⟨k,c0⟩],by omega,by go_num,HB3.out,hJ3,by omega,aF (by rw [hA.out,bK];rfl)⟩
     case measure=>simp [intOf];omega
   ·gi_wp2
    refine bodyPost_ret (results_none rfl _ _ _) rfl ?_
    exact ⟨⟨_,rfl⟩,.inr ⟨pre,_,_,hA.out,hJx3⟩⟩
  ·have hke:k=l.length:=by omega
   have hrest:Hid (L=pre):=aF (by rw [hA.out,hke,List.drop_length];simp [grpL])
   clear hA
   gi_wp2
   go_end0
   exact ⟨⟨_,rfl⟩,.inl (by rw [hrest.out];exact hJp)⟩
end
section
open Go Go.RowKit
section
variable {P:Program} {ops:Array Oper} {Q:Exit→Act→World→Prop} {S:World→Prop}
def lst (n k:Nat):Array Bool:=((List.replicate k true) ++ (List.replicate (n - k) false)).toArray
theorem uB {n k:Nat} (h:k<n):(lst n k).setIfInBounds k true=lst n (k+1):=by
 unfold lst
 rw [show n - k=(n - (k+1))+1 by omega,List.replicate_succ]
 simp only [List.setIfInBounds_toArray,List.replicate_succ']
 congr 1
 rw [List.set_append_right _ _ (by simp)]
 simp
def wpK (P:Program) (ops:Array Oper) (Q:Exit→Act→World→Prop) (S:World→Prop) (k:Nat) (a:Act) (w:World):Prop:=
 wpAnyM P .any ops Q S ops.size (ops.size - k) (lst ops.size k) a w
def okK (ops:Array Oper) (k:Nat):Bool:=
 decide (k<ops.size) && Region.noSelect ops && Region.free .any ops (lst ops.size k) k && lateB .any ops ops.size (lst ops.size k) k && (Region.ready .any ops (lst ops.size k)).contains k
theorem dR {k:Nat} {v:Value} {a:Act} {w:World} (hok:okK ops k=true) (hQ:∀c a w,Q (.panic c) (a.put ((ops[k]?).getD default).dst v) w→Q (.panic c) a w)
 (hy:YieldsIf P ops S ((ops[k]?).getD default) v a) (hS:S w) (h:wpK P ops Q S (k+1) (a.put ((ops[k]?).getD default).dst v) w):wpK P ops Q S k a w:=by
 simp only [okK,bP,decide_eq_true_eq] at hok
 obtain ⟨⟨⟨⟨hk,h1⟩,h2⟩,h3⟩,h4⟩:=hok
 have ho:ops[k]?=some ((ops[k]?).getD default):=by rw [Array.getElem?_eq_getElem hk];rfl
 unfold wpK at h ⊢
 rw [show ops.size - k=(ops.size - (k+1))+1 by omega]
 refine cX ho h1 h2 h3 h4 hQ hy hS ?_
 rw [uB hk]
 exact h
def oneK (ops:Array Oper) (k:Nat):Bool:=decide (k<ops.size) && decide (Region.ready .any ops (lst ops.size k)=[k])
theorem eJ {k:Nat} {a:Act} {w:World} (hok:oneK ops k=true)
 (h:∀K':Act→World→Prop,Shut (∀a w,(k<ops.size→S w)→wpK P ops Q S (k+1) a w→K' a w)→if Region.wanted ((ops[k]?).getD default) (yielded ops a.tmps)=true then Oper.wp P ((ops[k]?).getD default) a w K' Q else K' (a.put ((ops[k]?).getD default).dst undef) w):
 wpK P ops Q S k a w:=by
 simp only [oneK,bP,decide_eq_true_eq] at hok
 obtain ⟨hk,h1⟩:=hok
 have ho:ops[k]?=some ((ops[k]?).getD default):=by rw [Array.getElem?_eq_getElem hk];rfl
 unfold wpK
 rw [show ops.size - k=(ops.size - (k+1))+1 by omega]
 refine eB h1 ho (fun K' hK=>h K' (fun a w hs hw=>hK a w hs ?_))
 rw [uB hk]
 exact hw
theorem fJ {a:Act} {w:World} {k:Nat} (hk:ops.size=k) (h:Q .normal a w):wpK P ops Q S k a w:=by
 unfold wpK
 refine fP ?_ h _
 subst hk
 unfold Region.ready
 rw [List.filter_eq_nil_iff]
 intro i hi
 have hlt:i<ops.size:=by simpa using hi
 simp [lst,hlt]
theorem eT {id:Nat} {a:Act} {w:World} (hm:P.follows .mixedOrders=true) (h:wpK P ops Q S 0 a w.drew):(Code.region id ops true).wp P Q a w:=by
 refine gD (S:=S) (t:=ops.size) hm ?_
 have:Array.replicate ops.size false=lst ops.size 0:=by simp [lst]
 rw [this]
 exact h
theorem rE {id:Nat} {a:Act} {w:World} {r m:Nat} (hm:P.follows .mixedOrders=true) (hnd:iM ops=true) (hout:¬LetsOut Q) (h:wpK P ops Q S 0 a w.drew):
 (Code.region id ops true).wpIn (Fence.wide.inRound r) m P Q a w:=by
 refine wX (S:=S) (t:=ops.size) hm hnd hout ?_
 have:Array.replicate ops.size false=lst ops.size 0:=by simp [lst]
 rw [this]
 exact h
def lstO (n:Nat) (ord:List Nat) (k:Nat):Array Bool:=((List.range n).map (fun i=>(ord.take k).contains i)).toArray
theorem qR {n k:Nat} {ord:List Nat} (hk:k<ord.length):(lstO n ord k).setIfInBounds (ord.getD k 0) true=lstO n ord (k+1):=by
 have hg:ord.getD k 0=ord[k]:=by simp [hk]
 rw [hg]
 apply Array.ext
 ·simp [lstO]
 ·intro i h1 h2
  have hi:i<n:=by simpa [lstO] using h1
  have ht:ord.take (k+1)=ord.take k ++ [ord[k]]:=bE hk
  rw [Array.getElem_setIfInBounds (by simpa [lstO] using hi)]
  simp only [lstO,List.getElem_toArray,List.getElem_map,List.getElem_range,ht]
  by_cases he:ord[k]=i
  ·simp [he]
  ·rw [aX he]
   rw [bQ]
   simp only [List.contains_iff_mem,List.mem_append,bR]
   exact ⟨fun h=> .inl h,fun h=>h.resolve_right (fun e=>he e.symm)⟩
def wpO (P:Program) (ops:Array Oper) (Q:Exit→Act→World→Prop) (S:World→Prop) (t:Nat) (ord:List Nat) (k:Nat) (a:Act) (w:World):Prop:=
 wpAnyM P .any ops Q S t (ops.size - k) (lstO ops.size ord k) a w
def okO (ops:Array Oper) (t:Nat) (ord:List Nat) (k:Nat):Bool:=
 decide (k<ord.length) && decide (k<ops.size) && decide (ord.getD k 0<ops.size) && Region.noSelect ops && Region.free .any ops (lstO ops.size ord k) (ord.getD k 0) && lateB .any ops t (lstO ops.size ord k) (ord.getD k 0) && (Region.ready .any ops (lstO ops.size ord k)).contains (ord.getD k 0)
theorem dA {t:Nat} {ord:List Nat} {k:Nat} {v:Value} {a:Act} {w:World} (hok:okO ops t ord k=true) (hQ:∀c a w,Q (.panic c) (a.put ((ops[ord.getD k 0]?).getD default).dst v) w→Q (.panic c) a w)
 (hy:YieldsIf P ops S ((ops[ord.getD k 0]?).getD default) v a) (hS:S w) (h:wpO P ops Q S t ord (k+1) (a.put ((ops[ord.getD k 0]?).getD default).dst v) w):wpO P ops Q S t ord k a w:=by
 simp only [okO,bP,decide_eq_true_eq] at hok
 obtain ⟨⟨⟨⟨⟨⟨h0,hk0⟩,hk⟩,h1⟩,h2⟩,h3⟩,h4⟩:=hok
 have ho:ops[ord.getD k 0]?=some ((ops[ord.getD k 0]?).getD default):=by rw [Array.getElem?_eq_getElem hk];rfl
 unfold wpO at h ⊢
 rw [show ops.size - k=(ops.size - (k+1))+1 by omega]
 refine cX ho h1 h2 h3 h4 hQ hy hS ?_
 rw [qR h0]
 exact h
theorem cQ {t:Nat} {ord:List Nat} {k:Nat} {v:Value} {a:Act} {w:World} (hy:∀w,S w→(execOp a.eval ((ops[ord.getD k 0]?).getD default)).run P w = .ok (.value v) w) (hS:S w)
 (h:wpO P ops Q S t ord (k+1) (a.put ((ops[ord.getD k 0]?).getD default).dst v) w) (hok:okO ops t ord k=true:=by kernel_rfl)
 (hw:Region.wanted ((ops[ord.getD k 0]?).getD default) (yielded ops a.tmps)=true:=by rfl) (hQ:∀c a w,Q (.panic c) (a.put ((ops[ord.getD k 0]?).getD default).dst v) w→Q (.panic c) a w:=by exact fun _ _ _ h=>h):wpO P ops Q S t ord k a w:=
 dA hok hQ (Or.inl ⟨hw,hy⟩) hS h
def oneO (ops:Array Oper) (ord:List Nat) (k:Nat):Bool:=decide (k<ord.length) && decide (k<ops.size) && decide (ord.getD k 0<ops.size) && decide (Region.ready .any ops (lstO ops.size ord k)=[ord.getD k 0])
theorem cS {t:Nat} {ord:List Nat} {k:Nat} {a:Act} {w:World} (hok:oneO ops ord k=true)
 (h:∀K':Act→World→Prop,Shut (∀a w,(ord.getD k 0<t→S w)→wpO P ops Q S t ord (k+1) a w→K' a w)→if Region.wanted ((ops[ord.getD k 0]?).getD default) (yielded ops a.tmps)=true then Oper.wp P ((ops[ord.getD k 0]?).getD default) a w K' Q else K' (a.put ((ops[ord.getD k 0]?).getD default).dst undef) w):
 wpO P ops Q S t ord k a w:=by
 simp only [oneO,bP,decide_eq_true_eq] at hok
 obtain ⟨⟨⟨h0,hk0⟩,hk⟩,h1⟩:=hok
 have ho:ops[ord.getD k 0]?=some ((ops[ord.getD k 0]?).getD default):=by rw [Array.getElem?_eq_getElem hk];rfl
 unfold wpO
 rw [show ops.size - k=(ops.size - (k+1))+1 by omega]
 refine eB h1 ho (fun K' hK=>h K' (fun a w hs hw=>hK a w hs ?_))
 rw [qR h0]
 exact hw
theorem cV {t:Nat} {ord:List Nat} {a:Act} {w:World} {k:Nat} (hk:decide (Region.ready .any ops (lstO ops.size ord k)=[])=true) (h:Q .normal a w):wpO P ops Q S t ord k a w:=
 fP (by simpa using hk) h _
theorem fT {id:Nat} {a:Act} {w:World} (t:Nat) (ord:List Nat) (hm:P.follows .mixedOrders=true) (h:wpO P ops Q S t ord 0 a w.drew):(Code.region id ops true).wp P Q a w:=by
 refine gD (S:=S) (t:=t) hm ?_
 have:Array.replicate ops.size false=lstO ops.size ord 0:=by
  apply Array.ext
  ·simp [lstO]
  ·intro i h1 h2
   simp [lstO]
 rw [this]
 exact h
theorem cP {id:Nat} {a:Act} {w:World} (ord:List Nat) (hm:P.follows .mixedOrders=true) (h:wpO P ops Q S ops.size ord 0 a w.drew):(Code.region id ops true).wp P Q a w:=fT ops.size ord hm h
end
end
section
open Go Go.RowKit
attribute [local go_sem] Oper.semAt_some
theorem zK:∀(l:List UInt8) (k:Nat) (pre:List (Nat × UInt8)) (x:Nat × UInt8) (post:List (Nat × UInt8)),grpL k l=pre ++ x :: post→x.1=k+pre.length∧l.drop pre.length=x.2 :: l.drop (pre.length+1)∧(x.2.toNat<128→post=[])
 | [],k,pre,x,post,h=>by
   cases pre <;> simp [grpL] at h
 | c :: r,k,[],x,post,h=>by
   rw [jI] at h
   simp only [List.nil_append,List.cons.injEq] at h
   obtain ⟨rfl,h2⟩:=h
   refine ⟨rfl,rfl,fun hc=>?_⟩
   rw [aY hc] at h2
   exact h2.symm
 | c :: r,k,y :: pre,x,post,h=>by
   rw [jI] at h
   simp only [List.cons_append,List.cons.injEq] at h
   obtain ⟨_,h2⟩:=h
   by_cases hc:c.toNat<128
   ·rw [aY hc] at h2
    cases pre <;> simp at h2
   ·rw [aX hc] at h2
    obtain ⟨a,b,d⟩:=zK r (k+1) pre x post h2
    exact ⟨by simp only [bJ];omega,by simpa using b,d⟩
theorem uG:∀(l:List UInt8) (k:Nat),(∀x∈grpL k l,128≤x.2.toNat)→(grpL k l).length=l.length
 | [],_,_=>rfl
 | c :: r,k,h=>by
   rw [jI] at h ⊢
   have hc:=h (k,c) (by simp)
   simp only at hc
   rw [aX (by omega)] at h ⊢
   rw [bJ,bJ,uG r (k+1) (fun x hx=>h x (by simp [hx]))]
def GetI (l:List UInt8) (k:Nat) (G:Nat × Nat × Int) (w:World) (pre:List (Nat × UInt8)) (W:World):Prop:=
 W.heap[w.heap.size]?=some (.cells #[.int .i64 k] 3 (0,0))∧W.heap[w.heap.size+1]?=some (.cells #[.int .u64 0] 148 (0,0))∧
 W.heap[w.heap.size+1+1]?=some (.cells #[.int .i64 0] 3 (0,0))∧W.heap[w.heap.size+1+1+1]?=some (.cells #[.int .i64 0] 35 (0,0))∧
 (∃m:Nat,W.heap[w.heap.size+1+1+1+1]?=some (.cells #[.int .u64 m] 148 (0,0))∧m<2 ^ (7 * pre.length)∧G=getG pre.length m (l.drop pre.length))∧
 pre.length≤9∧(∀x∈pre,128≤x.2.toNat)∧Below w.heap.size w W
theorem GetI.turn {l:List UInt8} {k:Nat} {G:Nat × Nat × Int} {w:World} {pre:List (Nat × UInt8)} {D:Nat} {T:TypeId→Bool} {X Y:World} (h:GetI l k G w pre X) (ht:Turn D T X Y) (hD:w.heap.size+5≤D):GetI l k G w pre Y:=by
 obtain ⟨h0,h1,h2,h3,⟨m,h4,h5⟩,h6,h7,h8⟩:=h
 exact ⟨ht.block_low (by omega) h0,ht.block_low (by omega) h1,ht.block_low (by omega) h2,ht.block_low (by omega) h3,⟨m,ht.block_low (by omega) h4,h5⟩,h6,h7,ht.below (by omega) h8.size h8⟩
def GetX (v:Nat) (E er:Int) (w W:World):Prop:=
 W.heap[w.heap.size+1]?=some (.cells #[.int .u64 v] 148 (0,0))∧W.heap[w.heap.size+1+1]?=some (.cells #[.int .i64 E] 3 (0,0))∧
 W.heap[w.heap.size+1+1+1]?=some (.cells #[.int .i64 er] 35 (0,0))∧Below w.heap.size w W
theorem GetX.drew {v:Nat} {E er:Int} {w X:World} (h:GetX v E er w X):GetX v E er w X.drew:=⟨h.1,h.2.1,h.2.2.1,h.2.2.2.drew⟩
theorem GetX.turn {v:Nat} {E er:Int} {w:World} {D:Nat} {T:TypeId→Bool} {X Y:World} (h:GetX v E er w X) (ht:Turn D T X Y) (hD:w.heap.size+5≤D):GetX v E er w Y:=by
 obtain ⟨h1,h2,h3,h8⟩:=h
 exact ⟨ht.block_low (by omega) h1,ht.block_low (by omega) h2,ht.block_low (by omega) h3,ht.below (by omega) h8.size h8⟩
theorem tR (all:List UInt8) (A:Option Addr) (c k:Nat) (w:World) (hs:Slc 1 RB w A c all) (hk:k≤all.length) (hl:all.length≤1000000):
 Calls Tryz.prog 140 #[.slice A all.length c,.int .i64 k] w fun e' w'=>e' = .returned (.tuple #[.int .u64 (getL (all.drop k)).1,.int .i64 (if (getL (all.drop k)).2.2=0 then (k:Int)+(getL (all.drop k)).2.1 else 0),.int .i64 (getL (all.drop k)).2.2])∧Below w.heap.size w w':=by
 have hle:=hs.le
 have hbg:=hs.big
 have hcut:=rL (P:=Tryz.prog) 34 5 A all.length c k 1 Tryz.underlying34 Tryz.sizeOf5 (by omega)
 have hs2:=hs.dropN k hk
 have hln:(all.drop k).length=all.length - k:=List.length_drop
 have hl2:all.length - k≤1000000:=by omega
 generalize cutA A c k 1=A' at *
 rw [← hln] at hcut
 have HS:=aF hs2
 clear hs hs2
 generalize all.drop k=l at *
 have hlk:k+l.length≤1000000:=by omega
 clear hln
 generalize all.length=n0 at *
 obtain ⟨G,hG⟩:∃G,getL l=G:=⟨_,rfl⟩
 rw [hG]
 have HG:=aF hG
 obtain ⟨E,hE⟩:∃E,(if G.2.2=0 then (k:Int)+G.2.1 else 0)=E:=⟨_,rfl⟩
 rw [hE]
 have HE:=aF hE
 obtain ⟨gv,hgv⟩:∃v,G.1=v:=⟨_,rfl⟩
 rw [hgv]
 have HV:=aF hgv
 obtain ⟨ge,hge⟩:∃v,G.2.2=v:=⟨_,rfl⟩
 rw [hge]
 have HR:=aF hge
 clear hG hE hgv hge
 refine (callsIn_wide (n:=5)).1 ?_
 refine callsIn_of_wp_marks Tryz.func140 rfl trivial ?_ rfl
 simp only [Tryz.ntmps140,List.size_toArray,bJ,bO,Nat.reduceAdd,Nat.reduceSub,Array.replicate_succ,Array.replicate_zero,List.push_toArray,List.append_toArray,List.nil_append,List.cons_append]
 gi_wp2_with (refine ⟨trivial,?_⟩;gi_at_call 188;refine (callsIn_wide.2 (wL _ _ _ _)).mono ?_;rintro e' w' ⟨rfl,rfl⟩)
 obtain ⟨W0,hW0⟩:∃W0,(((((w.alloc (.cells #[.int .i64 k] 3)).alloc (.cells #[.int .u64 0] 148)).alloc (.cells #[.int .i64 0] 3)).alloc (.cells #[.int .i64 0] 35)).alloc (.cells #[.int .u64 0] 148)).alloc (.cells #[.slice A' l.length (c - k)] 34)=W0:=⟨_,rfl⟩
 rw [hW0]
 have hB0:Below w.heap.size w W0:=by rw [← hW0];exact aG
 have hz0:W0.heap.size=w.heap.size+1+1+1+1+1+1:=by subst hW0;simp
 have hat:∀(i:Nat) (o:Obj),[Obj.cells #[.int .i64 k] 3,.cells #[.int .u64 0] 148,.cells #[.int .i64 0] 3,.cells #[.int .i64 0] 35,.cells #[.int .u64 0] 148,.cells #[.slice A' l.length (c - k)] 34][i]?=some o→W0.heap[w.heap.size+i]?=some o:=by
  intro i o h
  rw [← hW0]
  exact (nC [Obj.cells #[.int .i64 k] 3,.cells #[.int .u64 0] 148,.cells #[.int .i64 0] 3,.cells #[.int .i64 0] 35,.cells #[.int .u64 0] 148,.cells #[.slice A' l.length (c - k)] 34] w i (List.getElem?_eq_some_iff.1 h).1).trans h
 have z0:=hat 0 _ rfl
 have z1:=hat 1 _ rfl
 have z2:=hat 2 _ rfl
 have z3:=hat 3 _ rfl
 have z4:=hat 4 _ rfl
 have z5:=hat 5 _ rfl
 have hseq:=xGG (5 - 1) (by omega) l A' (c - k) (w.heap.size+5) w W0 hB0 (blk1 z5).1 HS.out
 have hI0:GetI l k G w [] W0:=⟨z0,z1,z2,z3,⟨0,z4,by decide,HG.out.symm⟩,by simp,by simp,hB0⟩
 clear hat hW0 z0 z1 z2 z3 z4 z5 hcut
 refine jN rfl (by omega) (gf:=221) (lb:= #[.pointer (some ⟨w.heap.size+1+1+1+1+1,0,none⟩)]) rfl trivial (enters_of Tryz.func221 (by kernel_rfl) rfl)
  hseq (aV _ _) (by intro k hk;omega) (fun _=>rfl)
  (GetI l k G w) (fun co _ W=>co = .ret∧GetX gv E ge w W)
  (fun s X Y hs ht=>hs.turn ht (by omega)) (fun _ _ X Y hs ht=>⟨hs.1,hs.2.turn ht (by omega)⟩)
  hI0 ?round ?done ?stop
 case round=>
  rintro lr pre x post W hL hlr ⟨r,hr⟩ hWs hI
  simp only [encG,List.zip_toArray,List.zip_cons_cons]
  gi_wp2
  refine ⟨Kb.refl _ _ _ _,fun W2 hrec=>?_⟩
  have hI2:GetI l k G w pre W2:=hI.turn (hrec.turn (T:=fun _=>false) hlr) (by omega)
  clear hI hrec hI0 hr hseq
  obtain ⟨p0,p1,p2,p3,⟨m,p4,hm,hGm⟩,hj9,hall,hB⟩:=hI2
  obtain ⟨hx1,hx2,hx3⟩:=zK l 0 pre x post hL
  have hall2:x.2.toNat<128∨∀y∈pre ++ [x],128≤y.2.toNat:=by
   rcases Nat.lt_or_ge x.2.toNat 128 with h | h
   ·exact .inl h
   ·refine .inr (fun y hy=>?_)
    rcases List.mem_append.1 hy with h2 | h2
    ·exact hall y h2
    ·rw [bR] at h2;rw [h2];exact h
  obtain ⟨x1,c0⟩:=x
  simp only [Nat.zero_add] at hx1
  subst hx1
  have hpl:(pre ++ [(pre.length,c0)]).length=pre.length+1:=by simp
  have HALL:=aF hall2
  have HPL:=aF hpl
  generalize pre ++ [(pre.length,c0)]=pre' at *
  simp only at hx2 hx3
  rw [hx2] at hGm
  clear hL hx2 hx3 hall hall2 hpl
  obtain ⟨j,hj⟩:∃j,pre.length=j:=⟨_,rfl⟩
  rw [hj] at hm hGm hj9 HPL ⊢
  have hcb:c0.toNat<256:=c0.toNat_lt
  have HGM:=aF hGm
  obtain ⟨y,hy⟩:∃y,c0.toNat=y:=⟨_,rfl⟩
  have HY:=aF hy
  simp only [hy] at hcb ⊢
  clear hGm hj hy
  obtain ⟨v1,v1'⟩:=blk1 p1
  obtain ⟨v2,v2'⟩:=blk1 p2
  obtain ⟨v3,v3'⟩:=blk1 p3
  obtain ⟨v4,v4'⟩:=blk1 p4
  obtain ⟨v0,_⟩:=blk1 p0
  have kb3:∀a b c:Value,Kb (fun k=>k<w.heap.size) (w.heap.size+1+1+1+1+1+1) (fun _=>false) W2 (((W2.setCell ⟨w.heap.size+1,0,none⟩ a).setCell ⟨w.heap.size+1+1,0,none⟩ b).setCell ⟨w.heap.size+1+1+1,0,none⟩ c):=fun a b c=>
   (((Kb.refl _ _ _ _).setLow (p:=⟨w.heap.size+1,0,none⟩) _ (by simp <;> omega) (by simp <;> omega)).setLow (p:=⟨w.heap.size+1+1,0,none⟩) _ (by simp <;> omega) (by simp <;> omega)).setLow (p:=⟨w.heap.size+1+1+1,0,none⟩) _ (by simp <;> omega) (by simp <;> omega)
  have x3:∀(X:World) (a:Nat) (b c:Int),X.heap[w.heap.size+1]?=some (.cells #[.int .u64 0] 148 (0,0))→X.heap[w.heap.size+1+1]?=some (.cells #[.int .i64 0] 3 (0,0))→X.heap[w.heap.size+1+1+1]?=some (.cells #[.int .i64 0] 35 (0,0))→Below w.heap.size w X→
   GetX a b c w (((X.setCell ⟨w.heap.size+1,0,none⟩ (.int .u64 a)).setCell ⟨w.heap.size+1+1,0,none⟩ (.int .i64 b)).setCell ⟨w.heap.size+1+1+1,0,none⟩ (.int .i64 c)):=fun X a b c h1 h2 h3 h=>
   ⟨cZ _ (cZ _ (dU _ h1) (by simp <;> omega)) (by simp <;> omega),cZ _ (dU _ (cZ _ h2 (by simp <;> omega))) (by simp <;> omega),dU _ (cZ _ (cZ _ h3 (by simp <;> omega)) (by simp <;> omega)),((h.setCell (p:=⟨w.heap.size+1,0,none⟩) (by simp <;> omega) _).setCell (p:=⟨w.heap.size+1+1,0,none⟩) (by simp <;> omega) _).setCell (p:=⟨w.heap.size+1+1+1,0,none⟩) (by simp <;> omega) _⟩
  have KB3:=aF kb3
  have X3:=aF (fun a b c=>x3 W2 a b c p1 p2 p3 hB)
  have X3':=aF x3
  clear kb3 x3
  by_cases h1:j=9∧1<y
  ·obtain ⟨rfl,h1y⟩:=h1
   have hG6:G=(0,0,6):=by rw [HGM.out,gT,HY.out,aY ⟨rfl,h1y⟩]
   have e1:(1:Int)<(y:Int):=by omega
   have hx:=X3.out 0 0 6
   have hgv:gv=0:=by rw [← HV.out,hG6]
   have hge:ge=6:=by rw [← HR.out,hG6]
   have hE:E=0:=by rw [← HE.out,hG6];rfl
   have HX:=aF (show GetX gv E ge w _ from by rw [hgv,hge,hE];exact hx)
   clear hx hgv hge hE hG6 HGM hm
   gi_wp2
   exact ⟨KB3.out _ _ _,rfl,HX.out⟩
  ·have h2:¬(j=9∧1<c0.toNat):=by rw [HY.out];exact h1
   by_cases h0:0<j∧y=0
   ·have hG5:G=(0,0,5):=by rw [HGM.out,gT,aX h2,HY.out,aY (by omega),aY h0]
    obtain ⟨hj0,rfl⟩:=h0
    have hx:=X3.out 0 0 5
    have hgv:gv=0:=by rw [← HV.out,hG5]
    have hge:ge=5:=by rw [← HR.out,hG5]
    have hE:E=0:=by rw [← HE.out,hG5];rfl
    have HX:=aF (show GetX gv E ge w _ from by rw [hgv,hge,hE];exact hx)
    clear hx hgv hge hE hG5 HGM hm h1 h2
    gi_wp2
    all_goals exact ⟨KB3.out _ _ _,rfl,HX.out⟩
   ·obtain ⟨U,hU⟩:∃U:Nat,2 ^ (7 * j)=U:=⟨_,rfl⟩
    have HU:=aF hU
    have hm64:m<2 ^ 64:=bN hm (Nat.pow_le_pow_right (by omega) (by omega))
    have hUb:U≤9223372036854775808:=by
     rw [← hU]
     exact show 2 ^ (7 * j)≤2 ^ 63 from Nat.pow_le_pow_right (by omega) (by omega)
    have hU8:j≤8→U≤72057594037927936:=fun h=>by
     rw [← hU]
     exact show 2 ^ (7 * j)≤2 ^ 56 from Nat.pow_le_pow_right (by omega) (by omega)
    have hyu:(y % 128) * U<18446744073709551616:=by
     by_cases h9:j=9
     ·have:(y % 128) * U≤1 * U:=Nat.mul_le_mul_right _ (by omega)
      omega
     ·have:(y % 128) * U≤127 * U:=Nat.mul_le_mul_right _ (by omega)
      have:=hU8 (by omega)
      omega
    have HOR:Hid (bits .or .u64 (m:Int) (((y % 128 * U:Nat)):Int)=((m+y % 128 * U:Nat):Int)):=aF (by
     rw [← hU]
     exact xFW m (y % 128) (7 * j) hm hm64 (by rw [hU];exact hyu))
    have HAND:Hid (bits .and .u8 (y:Int) 127=((y % 128:Nat):Int)):=aF (and7 y hcb)
    have HM:=aF hm
    clear hU hm hm64
    by_cases hlo:y<128
    ·have hGl:G=(m+y % 128 * U,j+1,0):=by rw [HGM.out,gT,aX h2,HY.out,aY hlo,aX h0,HU.out,show y % 128=y by omega]
     have HGL:=aF hGl
     clear hGl h2
     have HFIN:Hid (∀X:World,X.heap[w.heap.size+1]?=some (.cells #[.int .u64 0] 148 (0,0))→X.heap[w.heap.size+1+1]?=some (.cells #[.int .i64 0] 3 (0,0))→X.heap[w.heap.size+1+1+1]?=some (.cells #[.int .i64 0] 35 (0,0))→Below w.heap.size w X→
      GetX gv E ge w (((X.setCell ⟨w.heap.size+1,0,none⟩ (.int .u64 ((m+y % 128 * U:Nat):Int))).setCell ⟨w.heap.size+1+1,0,none⟩ (.int .i64 ((k:Int)+j+1))).setCell ⟨w.heap.size+1+1+1,0,none⟩ (.int .i64 0))):=aF (fun X a b c d=>by
      have hgv:gv=m+y % 128 * U:=by rw [← HV.out,HGL.out]
      have hge:ge=0:=by rw [← HR.out,HGL.out]
      have hE:E=(k:Int)+j+1:=by rw [← HE.out,HGL.out];simp only [if_true];push_cast;omega
      rw [hgv,hge,hE]
      exact X3'.out X _ _ _ a b c d)
     obtain ⟨j7,hj7⟩:∃j7:Nat,7 * j=j7:=⟨_,rfl⟩
     have e7:IntKind.i64.wrap (7 * (j:Int))=(j7:Int):=by rw [← hj7,IntKind.wrap_i64];omega
     have e7b:j7≤64:=by omega
     have HVV:Hid (bits .or .u64 (m:Int) (IntKind.u64.wrap (IntKind.u64.wrap (bits .and .u8 (y:Int) 127) * 2 ^ j7))=((m+y % 128 * U:Nat):Int)):=aF (by
      rw [HAND.out,IntKind.wrap_u64,IntKind.wrap_u64,show ((y % 128:Nat):Int) % 18446744073709551616=((y % 128:Nat):Int) by omega,← hj7,show (2:Int) ^ (7 * j)=((2 ^ (7 * j):Nat):Int) by simp,HU.out,← Int.natCast_mul,show ((y % 128 * U:Nat):Int) % 18446744073709551616=((y % 128 * U:Nat):Int) by omega]
      exact HOR.out)
     obtain ⟨V,hV⟩:∃V:Nat,m+y % 128 * U=V:=⟨_,rfl⟩
     rw [hV] at HVV HFIN
     clear hV
     have P1:=aF p1
     have P0:=aF p0
     have P4:=aF p4
     have P2:=aF p2
     have P3:=aF p3
     have HBB:=aF hB
     have hjm:IntKind.i64.wrap ((k:Int)+j)=(k:Int)+j:=by rw [IntKind.wrap_i64];have:=hlk;omega
     have hjm1:IntKind.i64.wrap ((k:Int)+j+1)=(k:Int)+j+1:=by rw [IntKind.wrap_i64];have:=hlk;omega
     have hlo':(y:Int)<128:=by omega
     have HZ0:=aF hz0
     have KBF:Hid (∀(X:World) (a b c:Value),Kb (fun k=>k<w.heap.size) (w.heap.size+1+1+1+1+1+1) (fun _=>false) X (((X.setCell ⟨w.heap.size+1,0,none⟩ a).setCell ⟨w.heap.size+1+1,0,none⟩ b).setCell ⟨w.heap.size+1+1+1,0,none⟩ c).drew):=aF (fun X a b c=>
      ((((Kb.refl _ _ _ _).setLow (p:=⟨w.heap.size+1,0,none⟩) _ (by simp <;> omega) (by simp <;> omega)).setLow (p:=⟨w.heap.size+1+1,0,none⟩) _ (by simp <;> omega) (by simp <;> omega)).setLow (p:=⟨w.heap.size+1+1+1,0,none⟩) _ (by simp <;> omega) (by simp <;> omega)).drew)
     have hjk:(k:Int)+(j:Int)≤1000009:=by omega
     rcases (show (j=9∧y=1)∨(j≤8∧0<y)∨(j=0∧y=0) by omega) with ⟨h8,hy0⟩ | ⟨h8,hy0⟩ | ⟨h8,hy0⟩
     ·subst h8 hy0
      obtain rfl:j7=63:=by omega
      have e10:IntKind.i64.wrap ((k:Int)+9)=(k:Int)+9:=hjm
      have e11:IntKind.i64.wrap ((k:Int)+9+1)=(k:Int)+9+1:=hjm1
      have e63:IntKind.i64.wrap 63=63:=by decide
      replace HVV:Hid (bits .or .u64 (m:Int) (IntKind.u64.wrap (IntKind.u64.wrap (bits .and .u8 1 127) * 9223372036854775808))=(V:Int)):=HVV
      clear h1 h0 hyu hU8 hUb p1 p2 p3 p4 p0 hB hj7
      gi_wp2
      refine eH 8 (by kernel_rfl) (by kernel_rfl) (by rintro ⟨_,_,hx⟩;exact hx) (by kernel_rfl) ?_
      simp only [List.take_succ_cons,List.take_zero,List.drop_succ_cons,bW]
      repeat still_step
      try refine wpStill_nil ?_
      rw [HVV.out]
      change wpList _ _ _ _ _ W2.drew
      go_wp2_with fail
      gi_wp2
      generalize hW3:(W2.setCell ⟨w.heap.size+1+1+1+1,0,none⟩ (.int .u64 (V:Int))).drew=W3
      have q0:W3.heap[w.heap.size]?=some (.cells #[.int .i64 k] 3 (0,0)):=by rw [← hW3];exact cZ _ P0.out (by simp <;> omega)
      have q1:W3.heap[w.heap.size+1]?=some (.cells #[.int .u64 0] 148 (0,0)):=by rw [← hW3];exact cZ _ P1.out (by simp <;> omega)
      have q2:W3.heap[w.heap.size+1+1]?=some (.cells #[.int .i64 0] 3 (0,0)):=by rw [← hW3];exact cZ _ P2.out (by simp <;> omega)
      have q3:W3.heap[w.heap.size+1+1+1]?=some (.cells #[.int .i64 0] 35 (0,0)):=by rw [← hW3];exact cZ _ P3.out (by simp <;> omega)
      have q4:W3.heap[w.heap.size+1+1+1+1]?=some (.cells #[.int .u64 V] 148 (0,0)):=by rw [← hW3];exact dU _ P4.out
      have hKb:Kb (fun k=>k<w.heap.size) (w.heap.size+1+1+1+1+1+1) (fun _=>false) W2 W3:=by rw [← hW3];exact ((Kb.refl _ _ _ _).setLow (p:=⟨w.heap.size+1+1+1+1,0,none⟩) _ (by simp <;> omega) (by simp <;> omega)).drew
      have hB3:Below w.heap.size w W3:=by rw [← hW3];exact (HBB.out.setCell (p:=⟨w.heap.size+1+1+1+1,0,none⟩) (by simp <;> omega) _).drew
      have KB:=aF hKb
      have HB3:=aF hB3
      have Q1:=aF q1
      have Q2:=aF q2
      have Q3:=aF q3
      clear hW3 hKb hB3 v0 v1 v2 v3 v4 v1' v2' v3' v4'
      obtain ⟨s1,s1'⟩:=blk1 q1
      obtain ⟨s2,s2'⟩:=blk1 q2
      obtain ⟨s3,s3'⟩:=blk1 q3
      obtain ⟨s4,_⟩:=blk1 q4
      obtain ⟨s0,_⟩:=blk1 q0
      clear q0 q1 q2 q3 q4
      refine rE (S:=fun X=>X.cell? ⟨w.heap.size+1+1+1+1,0,none⟩=some (.int .u64 V)∧X.cell? ⟨w.heap.size,0,none⟩=some (.int .i64 k)) (by kernel_rfl) (by kernel_rfl) (by rintro ⟨_,_,hx⟩;exact hx) ?_
      have g1:∀(X:World) (b:Nat) (u:Value),X.cell? ⟨w.heap.size+1+1+1+1,0,none⟩=some (.int .u64 V)∧X.cell? ⟨w.heap.size,0,none⟩=some (.int .i64 k)→b≠w.heap.size+1+1+1+1→b≠w.heap.size→(X.setCell ⟨b,0,none⟩ u).cell? ⟨w.heap.size+1+1+1+1,0,none⟩=some (.int .u64 V)∧(X.setCell ⟨b,0,none⟩ u).cell? ⟨w.heap.size,0,none⟩=some (.int .i64 k):=fun X b u h h1 h2=>by
       constructor
       ·rw [dO u h1.symm];exact h.1
       ·rw [dO u h2.symm];exact h.2
      have hS:W3.drew.cell? ⟨w.heap.size+1+1+1+1,0,none⟩=some (.int .u64 V)∧W3.drew.cell? ⟨w.heap.size,0,none⟩=some (.int .i64 k):=⟨s4,s0⟩
      (iterate 5 (refine dR (v:=?_) (by kernel_rfl) (fun _ _ _ h=>h) (Or.inl ⟨by rfl,?_⟩) hS ?_;rotate_left;(next=>(rintro X ⟨r1,r2⟩;(try simp only [aI]);go_simp;rfl));simp only [aI,Act.put,aJ]))
      (refine eJ (by kernel_rfl) (fun K1 hK1=>?_);simp only [aI,Act.put];rw [aY (by rfl)];go_simp)
      have hS2:=g1 W3 (w.heap.size+1) (.int .u64 V) hS (by omega) (by omega)
      refine hK1.out _ _ (fun _=>hS2) ?_
      (refine eJ (by kernel_rfl) (fun K1 hK1=>?_);simp only [aI,Act.put];rw [aY (by rfl)];go_simp)
      have hS3:=g1 _ (w.heap.size+1+1) (.int .i64 ((k:Int)+9+1)) hS2 (by omega) (by omega)
      refine hK1.out _ _ (fun _=>hS3) ?_
      (refine eJ (by kernel_rfl) (fun K1 hK1=>?_);simp only [aI,Act.put];rw [aY (by rfl)];go_simp)
      refine hK1.out _ _ (fun _=>g1 _ (w.heap.size+1+1+1) (.int .i64 0) hS3 (by omega) (by omega)) ?_
      refine fJ rfl ?_
      gi_wp2
      exact ⟨by rw [HZ0.out];exact KB.out.trans (KBF.out _ _ _ _),rfl,(HFIN.out _ Q1.out Q2.out Q3.out HB3.out).drew⟩
     ·have e9:((j:Int) == 9)=false:=by simp;omega
      have e0:((y:Int) == 0)=false:=by simp;omega
      clear h1 h0 hyu hU8 hUb p1 p2 p3 p4 p0 hB hj7
      gi_wp2
      refine eH 8 (by kernel_rfl) (by kernel_rfl) (by rintro ⟨_,_,hx⟩;exact hx) (by kernel_rfl) ?_
      simp only [List.take_succ_cons,List.take_zero,List.drop_succ_cons,bW]
      repeat still_step
      try refine wpStill_nil ?_
      rw [HVV.out]
      change wpList _ _ _ _ _ W2.drew
      go_wp2_with fail
      gi_wp2
      generalize hW3:(W2.setCell ⟨w.heap.size+1+1+1+1,0,none⟩ (.int .u64 (V:Int))).drew=W3
      have q0:W3.heap[w.heap.size]?=some (.cells #[.int .i64 k] 3 (0,0)):=by rw [← hW3];exact cZ _ P0.out (by simp <;> omega)
      have q1:W3.heap[w.heap.size+1]?=some (.cells #[.int .u64 0] 148 (0,0)):=by rw [← hW3];exact cZ _ P1.out (by simp <;> omega)
      have q2:W3.heap[w.heap.size+1+1]?=some (.cells #[.int .i64 0] 3 (0,0)):=by rw [← hW3];exact cZ _ P2.out (by simp <;> omega)
      have q3:W3.heap[w.heap.size+1+1+1]?=some (.cells #[.int .i64 0] 35 (0,0)):=by rw [← hW3];exact cZ _ P3.out (by simp <;> omega)
      have q4:W3.heap[w.heap.size+1+1+1+1]?=some (.cells #[.int .u64 V] 148 (0,0)):=by rw [← hW3];exact dU _ P4.out
      have hKb:Kb (fun k=>k<w.heap.size) (w.heap.size+1+1+1+1+1+1) (fun _=>false) W2 W3:=by rw [← hW3];exact ((Kb.refl _ _ _ _).setLow (p:=⟨w.heap.size+1+1+1+1,0,none⟩) _ (by simp <;> omega) (by simp <;> omega)).drew
      have hB3:Below w.heap.size w W3:=by rw [← hW3];exact (HBB.out.setCell (p:=⟨w.heap.size+1+1+1+1,0,none⟩) (by simp <;> omega) _).drew
      have KB:=aF hKb
      have HB3:=aF hB3
      have Q1:=aF q1
      have Q2:=aF q2
      have Q3:=aF q3
      clear hW3 hKb hB3 v0 v1 v2 v3 v4 v1' v2' v3' v4'
      obtain ⟨s1,s1'⟩:=blk1 q1
      obtain ⟨s2,s2'⟩:=blk1 q2
      obtain ⟨s3,s3'⟩:=blk1 q3
      obtain ⟨s4,_⟩:=blk1 q4
      obtain ⟨s0,_⟩:=blk1 q0
      clear q0 q1 q2 q3 q4
      refine rE (S:=fun X=>X.cell? ⟨w.heap.size+1+1+1+1,0,none⟩=some (.int .u64 V)∧X.cell? ⟨w.heap.size,0,none⟩=some (.int .i64 k)) (by kernel_rfl) (by kernel_rfl) (by rintro ⟨_,_,hx⟩;exact hx) ?_
      have g1:∀(X:World) (b:Nat) (u:Value),X.cell? ⟨w.heap.size+1+1+1+1,0,none⟩=some (.int .u64 V)∧X.cell? ⟨w.heap.size,0,none⟩=some (.int .i64 k)→b≠w.heap.size+1+1+1+1→b≠w.heap.size→(X.setCell ⟨b,0,none⟩ u).cell? ⟨w.heap.size+1+1+1+1,0,none⟩=some (.int .u64 V)∧(X.setCell ⟨b,0,none⟩ u).cell? ⟨w.heap.size,0,none⟩=some (.int .i64 k):=fun X b u h h1 h2=>by
       constructor
       ·rw [dO u h1.symm];exact h.1
       ·rw [dO u h2.symm];exact h.2
      have hS:W3.drew.cell? ⟨w.heap.size+1+1+1+1,0,none⟩=some (.int .u64 V)∧W3.drew.cell? ⟨w.heap.size,0,none⟩=some (.int .i64 k):=⟨s4,s0⟩
      (iterate 5 (refine dR (v:=?_) (by kernel_rfl) (fun _ _ _ h=>h) (Or.inl ⟨by rfl,?_⟩) hS ?_;rotate_left;(next=>(rintro X ⟨r1,r2⟩;(try simp only [aI]);go_simp;rfl));simp only [aI,Act.put,aJ]))
      (refine eJ (by kernel_rfl) (fun K1 hK1=>?_);simp only [aI,Act.put];rw [aY (by rfl)];go_simp)
      have hS2:=g1 W3 (w.heap.size+1) (.int .u64 V) hS (by omega) (by omega)
      refine hK1.out _ _ (fun _=>hS2) ?_
      (refine eJ (by kernel_rfl) (fun K1 hK1=>?_);simp only [aI,Act.put];rw [aY (by rfl)];go_simp)
      have hS3:=g1 _ (w.heap.size+1+1) (.int .i64 ((k:Int)+j+1)) hS2 (by omega) (by omega)
      refine hK1.out _ _ (fun _=>hS3) ?_
      (refine eJ (by kernel_rfl) (fun K1 hK1=>?_);simp only [aI,Act.put];rw [aY (by rfl)];go_simp)
      refine hK1.out _ _ (fun _=>g1 _ (w.heap.size+1+1+1) (.int .i64 0) hS3 (by omega) (by omega)) ?_
      refine fJ rfl ?_
      gi_wp2
      exact ⟨by rw [HZ0.out];exact KB.out.trans (KBF.out _ _ _ _),rfl,(HFIN.out _ Q1.out Q2.out Q3.out HB3.out).drew⟩
     ·subst h8 hy0
      obtain rfl:j7=0:=by omega
      have e10:IntKind.i64.wrap (k:Int)=(k:Int):=by have:=hjm;rwa [show (k:Int)+((0:Nat):Int)=(k:Int) by omega] at this
      have e11:IntKind.i64.wrap ((k:Int)+1)=(k:Int)+1:=by have:=hjm1;rwa [show (k:Int)+((0:Nat):Int)+1=(k:Int)+1 by omega] at this
      have e63:IntKind.i64.wrap 0=0:=by decide
      replace HVV:Hid (bits .or .u64 (m:Int) (IntKind.u64.wrap (IntKind.u64.wrap (bits .and .u8 0 127)))=(V:Int)):=aF (by have:=HVV.out;rw [Int.pow_zero,Int.mul_one] at this;exact this)
      clear h1 h0 hyu hU8 hUb p1 p2 p3 p4 p0 hB hj7
      gi_wp2
      refine eH 8 (by kernel_rfl) (by kernel_rfl) (by rintro ⟨_,_,hx⟩;exact hx) (by kernel_rfl) ?_
      simp only [List.take_succ_cons,List.take_zero,List.drop_succ_cons,bW]
      repeat still_step
      try refine wpStill_nil ?_
      rw [HVV.out]
      change wpList _ _ _ _ _ W2.drew
      go_wp2_with fail
      gi_wp2
      generalize hW3:(W2.setCell ⟨w.heap.size+1+1+1+1,0,none⟩ (.int .u64 (V:Int))).drew=W3
      have q0:W3.heap[w.heap.size]?=some (.cells #[.int .i64 k] 3 (0,0)):=by rw [← hW3];exact cZ _ P0.out (by simp <;> omega)
      have q1:W3.heap[w.heap.size+1]?=some (.cells #[.int .u64 0] 148 (0,0)):=by rw [← hW3];exact cZ _ P1.out (by simp <;> omega)
      have q2:W3.heap[w.heap.size+1+1]?=some (.cells #[.int .i64 0] 3 (0,0)):=by rw [← hW3];exact cZ _ P2.out (by simp <;> omega)
      have q3:W3.heap[w.heap.size+1+1+1]?=some (.cells #[.int .i64 0] 35 (0,0)):=by rw [← hW3];exact cZ _ P3.out (by simp <;> omega)
      have q4:W3.heap[w.heap.size+1+1+1+1]?=some (.cells #[.int .u64 V] 148 (0,0)):=by rw [← hW3];exact dU _ P4.out
      have hKb:Kb (fun k=>k<w.heap.size) (w.heap.size+1+1+1+1+1+1) (fun _=>false) W2 W3:=by rw [← hW3];exact ((Kb.refl _ _ _ _).setLow (p:=⟨w.heap.size+1+1+1+1,0,none⟩) _ (by simp <;> omega) (by simp <;> omega)).drew
      have hB3:Below w.heap.size w W3:=by rw [← hW3];exact (HBB.out.setCell (p:=⟨w.heap.size+1+1+1+1,0,none⟩) (by simp <;> omega) _).drew
      have KB:=aF hKb
      have HB3:=aF hB3
      have Q1:=aF q1
      have Q2:=aF q2
      have Q3:=aF q3
      clear hW3 hKb hB3 v0 v1 v2 v3 v4 v1' v2' v3' v4'
      obtain ⟨s1,s1'⟩:=blk1 q1
      obtain ⟨s2,s2'⟩:=blk1 q2
      obtain ⟨s3,s3'⟩:=blk1 q3
      obtain ⟨s4,_⟩:=blk1 q4
      obtain ⟨s0,_⟩:=blk1 q0
      clear q0 q1 q2 q3 q4
      refine rE (S:=fun X=>X.cell? ⟨w.heap.size+1+1+1+1,0,none⟩=some (.int .u64 V)∧X.cell? ⟨w.heap.size,0,none⟩=some (.int .i64 k)) (by kernel_rfl) (by kernel_rfl) (by rintro ⟨_,_,hx⟩;exact hx) ?_
      have g1:∀(X:World) (b:Nat) (u:Value),X.cell? ⟨w.heap.size+1+1+1+1,0,none⟩=some (.int .u64 V)∧X.cell? ⟨w.heap.size,0,none⟩=some (.int .i64 k)→b≠w.heap.size+1+1+1+1→b≠w.heap.size→(X.setCell ⟨b,0,none⟩ u).cell? ⟨w.heap.size+1+1+1+1,0,none⟩=some (.int .u64 V)∧(X.setCell ⟨b,0,none⟩ u).cell? ⟨w.heap.size,0,none⟩=some (.int .i64 k):=fun X b u h h1 h2=>by
       constructor
       ·rw [dO u h1.symm];exact h.1
       ·rw [dO u h2.symm];exact h.2
      have hS:W3.drew.cell? ⟨w.heap.size+1+1+1+1,0,none⟩=some (.int .u64 V)∧W3.drew.cell? ⟨w.heap.size,0,none⟩=some (.int .i64 k):=⟨s4,s0⟩
      (iterate 5 (refine dR (v:=?_) (by kernel_rfl) (fun _ _ _ h=>h) (Or.inl ⟨by rfl,?_⟩) hS ?_;rotate_left;(next=>(rintro X ⟨r1,r2⟩;(try simp only [aI]);go_simp;rfl));simp only [aI,Act.put,aJ]))
      (refine eJ (by kernel_rfl) (fun K1 hK1=>?_);simp only [aI,Act.put];rw [aY (by rfl)];go_simp)
      have hS2:=g1 W3 (w.heap.size+1) (.int .u64 V) hS (by omega) (by omega)
      refine hK1.out _ _ (fun _=>hS2) ?_
      (refine eJ (by kernel_rfl) (fun K1 hK1=>?_);simp only [aI,Act.put];rw [aY (by rfl)];go_simp)
      have hS3:=g1 _ (w.heap.size+1+1) (.int .i64 ((k:Int)+1)) hS2 (by omega) (by omega)
      refine hK1.out _ _ (fun _=>hS3) ?_
      (refine eJ (by kernel_rfl) (fun K1 hK1=>?_);simp only [aI,Act.put];rw [aY (by rfl)];go_simp)
      refine hK1.out _ _ (fun _=>g1 _ (w.heap.size+1+1+1) (.int .i64 0) hS3 (by omega) (by omega)) ?_
      refine fJ rfl ?_
      gi_wp2
      exact ⟨by rw [HZ0.out];exact KB.out.trans (KBF.out _ _ _ _),rfl,(by have h:=(HFIN.out _ Q1.out Q2.out Q3.out HB3.out).drew;rw [show (k:Int)+((0:Nat):Int)+1=(k:Int)+1 by omega] at h;exact h)⟩
    ·have hj8:j≤8:=by omega
     have hGl:G=getG (j+1) (m+y % 128 * U) (l.drop (j+1)):=by rw [HGM.out,gT,aX h2,HY.out,aX hlo,HU.out,show y % 128=y - 128 by omega]
     have HGL:=aF hGl
     have hmU:m<U:=by
      have:=HM.out
      rwa [HU.out] at this
     have HMU:Hid (m+y % 128 * U<2 ^ (7 * (j+1))):=aF (by
      rw [show 7 * (j+1)=7+7 * j by omega,Nat.pow_add,HU.out]
      have:(y % 128) * U≤127 * U:=Nat.mul_le_mul_right _ (by omega)
      omega)
     obtain ⟨j7,hj7⟩:∃j7:Nat,7 * j=j7:=⟨_,rfl⟩
     have e7:IntKind.i64.wrap (7 * (j:Int))=(j7:Int):=by rw [← hj7,IntKind.wrap_i64];omega
     have e7b:j7≤64:=by omega
     have HVV:Hid (bits .or .u64 (m:Int) (IntKind.u64.wrap (IntKind.u64.wrap (bits .and .u8 (y:Int) 127) * 2 ^ j7))=((m+y % 128 * U:Nat):Int)):=aF (by
      rw [HAND.out,IntKind.wrap_u64,IntKind.wrap_u64,show ((y % 128:Nat):Int) % 18446744073709551616=((y % 128:Nat):Int) by omega,← hj7,show (2:Int) ^ (7 * j)=((2 ^ (7 * j):Nat):Int) by simp,HU.out,← Int.natCast_mul,show ((y % 128 * U:Nat):Int) % 18446744073709551616=((y % 128 * U:Nat):Int) by omega]
      exact HOR.out)
     obtain ⟨V,hV⟩:∃V:Nat,m+y % 128 * U=V:=⟨_,rfl⟩
     rw [hV] at HVV HMU HGL
     have e9:((j:Int) == 9)=false:=by simp;omega
     have e0:((y:Int) == 0)=false:=by simp;omega
     have hlo':¬(y:Int)<128:=by omega
     have P0:=aF p0
     have P1:=aF p1
     have P2:=aF p2
     have P3:=aF p3
     have P4:=aF p4
     have HBB:=aF hB
     have HZ0:=aF hz0
     clear h1 h2 h0 hyu hU8 hUb p1 p2 p3 p4 p0 hB hj7 hV hGl hmU
     gi_wp2
     refine eH 8 (by kernel_rfl) (by kernel_rfl) (by rintro ⟨_,_,hx⟩;exact hx) (by kernel_rfl) ?_
     simp only [List.take_succ_cons,List.take_zero,List.drop_succ_cons,bW]
     repeat still_step
     try refine wpStill_nil ?_
     rw [HVV.out]
     change wpList _ _ _ _ _ W2.drew
     go_wp2_with fail
     gi_wp2
     refine ⟨?_,?_⟩
     ·rw [HZ0.out];exact ((Kb.refl _ _ _ _).setLow (p:=⟨w.heap.size+1+1+1+1,0,none⟩) _ (by simp <;> omega) (by simp <;> omega)).drew
     ·refine ⟨cZ _ P0.out (by simp <;> omega),cZ _ P1.out (by simp <;> omega),cZ _ P2.out (by simp <;> omega),cZ _ P3.out (by simp <;> omega),⟨V,dU _ P4.out,by rw [HPL.out];exact HMU.out,by rw [HPL.out];exact HGL.out⟩,by rw [HPL.out];omega,?_,(HBB.out.setCell (p:=⟨w.heap.size+1+1+1+1,0,none⟩) (by simp <;> omega) _).drew⟩
      rcases HALL.out with h | h
      ·exact absurd h (by simp only [HY.out];omega)
      ·exact h
 case done=>
  intro D W hD hI hK
  obtain ⟨p0,p1,p2,p3,⟨m,p4,hm,hGm⟩,hj9,hall,hB⟩:=hI
  have hlen:=uG l 0 hall
  have hG4:G=(0,0,4):=by rw [hGm,hlen,List.drop_length,uH]
  have hgv:gv=0:=by rw [← HV.out,hG4]
  have hge:ge=4:=by rw [← HR.out,hG4]
  have hE:E=0:=by rw [← HE.out,hG4];rfl
  obtain ⟨v1,v1'⟩:=blk1 p1
  obtain ⟨v2,v2'⟩:=blk1 p2
  obtain ⟨v3,v3'⟩:=blk1 p3
  have P1:=aF p1
  have P2:=aF p2
  have P3:=aF p3
  have HBB:=aF hB
  have HKK:=aF hK
  clear hall hG4 hGm hlen hm p4
  subst hgv hge hE
  gi_wp2
  generalize hW5:((W.setCell ⟨w.heap.size+1,0,none⟩ (.int .u64 0)).setCell ⟨w.heap.size+1+1,0,none⟩ (.int .i64 0)).setCell ⟨w.heap.size+1+1+1,0,none⟩ (.int .i64 4)=W5
  have h1:W5.heap[w.heap.size+1]?=some (.cells #[.int .u64 0] 148 (0,0)):=by rw [← hW5];exact cZ _ (cZ _ (dU _ P1.out) (by simp <;> omega)) (by simp <;> omega)
  have h2:W5.heap[w.heap.size+1+1]?=some (.cells #[.int .i64 0] 3 (0,0)):=by rw [← hW5];exact cZ _ (dU _ (cZ _ P2.out (by simp <;> omega))) (by simp <;> omega)
  have h3:W5.heap[w.heap.size+1+1+1]?=some (.cells #[.int .i64 4] 35 (0,0)):=by rw [← hW5];exact dU _ (cZ _ (cZ _ P3.out (by simp <;> omega)) (by simp <;> omega))
  have hKD:W5.heap[D]?=some (.deferred (some [])):=by rw [← hW5];exact cZ _ (cZ _ (cZ _ HKK.out (by simp <;> omega)) (by simp <;> omega)) (by simp <;> omega)
  have h8:Below w.heap.size w W5:=by rw [← hW5];exact ((HBB.out.setCell (p:=⟨w.heap.size+1,0,none⟩) (by simp <;> omega) _).setCell (p:=⟨w.heap.size+1+1,0,none⟩) (by simp <;> omega) _).setCell (p:=⟨w.heap.size+1+1+1,0,none⟩) (by simp <;> omega) _
  clear hW5
  refine ⟨by simp,.inl ⟨_,_,rfl,run_takeDeferred (w:=_) hKD,?_⟩⟩
  have hT:Turn D (fun _=>false) W5 (W5.putObj D (.deferred none)):=Turn.putObj _ hKD (aW _) rfl
  have n1:=hT.block_low (by omega) h1
  have n2:=hT.block_low (by omega) h2
  have n3:=hT.block_low (by omega) h3
  have hbl:=hT.below (by omega) h8.size h8
  generalize W5.putObj D (.deferred none)=W6 at *
  obtain ⟨m1,_⟩:=blk1 n1
  obtain ⟨m2,_⟩:=blk1 n2
  obtain ⟨m3,_⟩:=blk1 n3
  refine ⟨.tuple #[.int .u64 0,.int .i64 0,.int .i64 4],?_,by simp,hbl⟩
  simp [results,Tryz.results140,go_sem,m1,m2,m3]
 case stop=>
  rintro D co pre x post W hD hL ⟨rfl,h1,h2,h3,h8⟩ hK
  gi_wp2
  refine ⟨by simp,.inl ⟨_,_,rfl,run_takeDeferred (w:=_) hK,?_⟩⟩
  have hT:Turn D (fun _=>false) W (W.putObj D (.deferred none)):=Turn.putObj _ hK (aW _) rfl
  have n1:=hT.block_low (by omega) h1
  have n2:=hT.block_low (by omega) h2
  have n3:=hT.block_low (by omega) h3
  have hbl:=hT.below (by omega) h8.size h8
  generalize W.putObj D (.deferred none)=W6 at *
  obtain ⟨m1,_⟩:=blk1 n1
  obtain ⟨m2,_⟩:=blk1 n2
  obtain ⟨m3,_⟩:=blk1 n3
  refine ⟨.tuple #[.int .u64 gv,.int .i64 E,.int .i64 ge],?_,rfl,hbl⟩
  simp [results,Tryz.results140,go_sem,m1,m2,m3]
end
section
open Go Go.RowKit
def Ans (all:List UInt8) (F:Rs→Nat × Rs) (k v q:Nat) (er:Int):Prop:=F ⟨all.drop k,0⟩=(if er=0 then (v,⟨all.drop q,0⟩) else (0,⟨[],er⟩))∧(er=0→q≤all.length)
theorem uI {all:List UInt8} {k:Nat} (hk:k≤all.length) (h:(getL (all.drop k)).2.2=0):k+(getL (all.drop k)).2.1≤all.length:=by
 have:=(zL (all.drop k) 0 0 (by omega) (by omega) h).2.1
 rw [List.length_drop] at this
 unfold getL
 omega
theorem yG (most bm:Nat) (all:List UInt8) (A:Option Addr) (c k g br:Nat) (w:World) (hg:w.heap[g]?=some (.cells #[.slice A all.length c,.int .i64 k,.int .i64 0] 153)) (hs:Slc 1 RB w A c all) (hk:k≤all.length) (hl:all.length≤1000000) (h1:w.cell? ⟨br,0,none⟩=some (.pointer (some ⟨g,0,none⟩))) (h2:w.cell? ⟨bm,0,none⟩=some (.int .u64 most)):
 Calls Tryz.prog 144 #[.pointer (some ⟨br,0,none⟩),.pointer (some ⟨bm,0,none⟩)] w fun e' w'=>∃(v q:Nat) (er:Int),e' = .returned (.tuple #[.int .u64 v,.int .i64 q,.int .i64 er])∧Ans all (uintS most) k v q er∧Below w.heap.size w w':=by
 have x0:w.cell? ⟨g,0,none⟩=some (.slice A all.length c):=by simp [World.cell?,hg]
 have x1:w.cell? ⟨g,1,none⟩=some (.int .i64 k):=by simp [World.cell?,hg]
 have HG:=aF (tR all A c k w.drew (hs.keep RB.keeps (aV _ w).drew) hk hl)
 have HD:=aF (fun h=>uI hk h)
 have HU:Hid (uintS most ⟨all.drop k,0⟩=if (getL (all.drop k)).2.2=0 then (if most<(getL (all.drop k)).1 then (0,⟨[],15⟩) else ((getL (all.drop k)).1,⟨all.drop (k+(getL (all.drop k)).2.1),0⟩)) else (0,⟨[],(getL (all.drop k)).2.2⟩)):=aF (by
  unfold uintS
  simp only [if_true,List.drop_drop])
 have hle:=hs.le
 have hbg:=hs.big
 clear hs hg
 generalize getL (all.drop k)=R at *
 obtain ⟨v,t,er⟩:=R
 simp only at HG HD HU
 obtain ⟨E,hE⟩:∃E:Int,(if er=0 then (k:Int)+t else 0)=E:=⟨_,rfl⟩
 rw [hE] at HG
 have HEE:=aF hE
 clear hE
 go_enter Tryz.func144,Tryz.ntmps144
 go_wp2_with fail
 refine eT (S:=fun X=>X.cell? ⟨br,0,none⟩=some (.pointer (some ⟨g,0,none⟩))∧X.cell? ⟨g,0,none⟩=some (.slice A all.length c)∧X.cell? ⟨g,1,none⟩=some (.int .i64 k)) (by kernel_rfl) ?_
 have hS:w.drew.cell? ⟨br,0,none⟩=some (.pointer (some ⟨g,0,none⟩))∧w.drew.cell? ⟨g,0,none⟩=some (.slice A all.length c)∧w.drew.cell? ⟨g,1,none⟩=some (.int .i64 k):=⟨h1,x0,x1⟩
 (iterate 10 (refine dR (v:=?_) (by kernel_rfl) (fun _ _ _ h=>h) (Or.inl ⟨by rfl,?_⟩) hS ?_;rotate_left;(next=>(rintro X ⟨s1,s2,s3⟩;(try simp only [aI]);go_simp;rfl));simp only [aI,Act.put,aJ]))
 (refine eJ (by kernel_rfl) (fun K1 hK1=>?_);simp only [aI,Act.put,aJ];rw [aY (by rfl)];go_simp)
 refine HG.out.mono ?_
 rintro e' w1 ⟨rfl,hb1⟩
 replace hS:w1.cell? ⟨br,0,none⟩=some (.pointer (some ⟨g,0,none⟩))∧w1.cell? ⟨g,0,none⟩=some (.slice A all.length c)∧w1.cell? ⟨g,1,none⟩=some (.int .i64 k):=⟨cell_keep hb1 hS.1,cell_keep hb1 hS.2.1,cell_keep hb1 hS.2.2⟩
 refine hK1.out _ _ (fun _=>hS) ?_
 (iterate 7 (refine dR (v:=?_) (by kernel_rfl) (fun _ _ _ h=>h) (Or.inl ⟨by rfl,?_⟩) hS ?_;rotate_left;(next=>(rintro X _;(try simp only [aI]);go_simp;rfl));simp only [aI,Act.put,aJ]))
 refine fJ rfl ?_
 have y2:=cell_keep hb1 h2
 have HB1:Hid (Below w.heap.size w w1):=aF ((aV _ w).drew.trans hb1)
 clear hb1 hS h1 h2 x0 x1
 by_cases he:er=0
 ·subst he
  have e1:E=((k+t:Nat):Int):=by rw [← HEE.out];simp
  subst e1
  by_cases hm:most<v
  ·have hm':(most:Int)<(v:Int):=by omega
   go_wp2_with fail
   refine bodyPost_ret (v:= .tuple #[.int .u64 v,.int .i64 (k+t:Nat),.int .i64 15]) (by simp [results,Tryz.results144,go_sem] <;> rfl) rfl ?_
   refine ⟨v,k+t,15,by simp,⟨?_,fun h=>by cases h⟩,HB1.out⟩
   rw [HU.out];simp [hm]
  ·have hm':¬(most:Int)<(v:Int):=by omega
   go_wp2_with fail
   refine bodyPost_ret (v:= .tuple #[.int .u64 v,.int .i64 (k+t:Nat),.int .i64 0]) (by simp [results,Tryz.results144,go_sem] <;> rfl) rfl ?_
   refine ⟨v,k+t,0,by simp,⟨?_,fun _=>HD.out (by simp)⟩,HB1.out⟩
   rw [HU.out];simp [hm]
 ·have e2:(er == 0)=false:=by simp [he]
  have e3:(er != 0)=true:=by simp [he]
  have e1:E=((0:Nat):Int):=by rw [← HEE.out,aX he];rfl
  subst e1
  go_wp2_with fail
  refine bodyPost_ret (v:= .tuple #[.int .u64 v,.int .i64 (0:Nat),.int .i64 er]) (by simp [results,Tryz.results144,go_sem] <;> rfl) rfl ?_
  refine ⟨v,0,er,by simp,⟨?_,fun h=>absurd h he⟩,HB1.out⟩
  rw [HU.out];simp [he]
theorem wA (bm:Nat) (all:List UInt8) (A:Option Addr) (c k g br:Nat) (w:World) (hg:w.heap[g]?=some (.cells #[.slice A all.length c,.int .i64 k,.int .i64 0] 153)) (hs:Slc 1 RB w A c all) (hk:k≤all.length) (hl:all.length≤1000000) (h1:w.cell? ⟨br,0,none⟩=some (.pointer (some ⟨g,0,none⟩))) (h2:w.cell? ⟨bm,0,none⟩=some (.int .i64 65535)):
 Calls Tryz.prog 139 #[.pointer (some ⟨br,0,none⟩),.pointer (some ⟨bm,0,none⟩)] w fun e' w'=>∃(v q:Nat) (er:Int),e' = .returned (.tuple #[.int .i64 v,.int .i64 q,.int .i64 er])∧Ans all (countS 65535) k v q er∧Below w.heap.size w w':=by
 have x0:w.cell? ⟨g,0,none⟩=some (.slice A all.length c):=by simp [World.cell?,hg]
 have x1:w.cell? ⟨g,1,none⟩=some (.int .i64 k):=by simp [World.cell?,hg]
 have HG:=aF (tR all A c k w.drew (hs.keep RB.keeps (aV _ w).drew) hk hl)
 have HD:=aF (fun h=>uI hk h)
 have HU:Hid (countS 65535 ⟨all.drop k,0⟩=if (getL (all.drop k)).2.2=0 then (if 65535<(getL (all.drop k)).1 then (0,⟨[],15⟩) else if all.length - (k+(getL (all.drop k)).2.1)<(getL (all.drop k)).1 then (0,⟨[],4⟩) else ((getL (all.drop k)).1,⟨all.drop (k+(getL (all.drop k)).2.1),0⟩)) else (0,⟨[],(getL (all.drop k)).2.2⟩)):=aF (by
  unfold countS
  simp only [if_true,List.drop_drop,List.length_drop])
 have hle:=hs.le
 have hbg:=hs.big
 clear hs hg
 generalize getL (all.drop k)=R at *
 obtain ⟨v,t,er⟩:=R
 simp only at HG HD HU
 obtain ⟨E,hE⟩:∃E:Int,(if er=0 then (k:Int)+t else 0)=E:=⟨_,rfl⟩
 rw [hE] at HG
 have HEE:=aF hE
 clear hE
 go_enter Tryz.func139,Tryz.ntmps139
 go_wp2_with fail
 refine eT (S:=fun X=>X.cell? ⟨br,0,none⟩=some (.pointer (some ⟨g,0,none⟩))∧X.cell? ⟨g,0,none⟩=some (.slice A all.length c)∧X.cell? ⟨g,1,none⟩=some (.int .i64 k)) (by kernel_rfl) ?_
 have hS:w.drew.cell? ⟨br,0,none⟩=some (.pointer (some ⟨g,0,none⟩))∧w.drew.cell? ⟨g,0,none⟩=some (.slice A all.length c)∧w.drew.cell? ⟨g,1,none⟩=some (.int .i64 k):=⟨h1,x0,x1⟩
 (iterate 10 (refine dR (v:=?_) (by kernel_rfl) (fun _ _ _ h=>h) (Or.inl ⟨by rfl,?_⟩) hS ?_;rotate_left;(next=>(rintro X ⟨s1,s2,s3⟩;(try simp only [aI]);go_simp;rfl));simp only [aI,Act.put,aJ]))
 (refine eJ (by kernel_rfl) (fun K1 hK1=>?_);simp only [aI,Act.put,aJ];rw [aY (by rfl)];go_simp)
 refine HG.out.mono ?_
 rintro e' w1 ⟨rfl,hb1⟩
 replace hS:w1.cell? ⟨br,0,none⟩=some (.pointer (some ⟨g,0,none⟩))∧w1.cell? ⟨g,0,none⟩=some (.slice A all.length c)∧w1.cell? ⟨g,1,none⟩=some (.int .i64 k):=⟨cell_keep hb1 hS.1,cell_keep hb1 hS.2.1,cell_keep hb1 hS.2.2⟩
 refine hK1.out _ _ (fun _=>hS) ?_
 (iterate 7 (refine dR (v:=?_) (by kernel_rfl) (fun _ _ _ h=>h) (Or.inl ⟨by rfl,?_⟩) hS ?_;rotate_left;(next=>(rintro X _;(try simp only [aI]);go_simp;rfl));simp only [aI,Act.put,aJ]))
 refine fJ rfl ?_
 have y2:=cell_keep hb1 h2
 have HB1:Hid (Below w.heap.size w w1):=aF ((aV _ w).drew.trans hb1)
 clear hb1 h1 h2 x0 x1
 have x0':=hS.2.1
 by_cases he:er=0
 ·subst he
  have e1:E=((k+t:Nat):Int):=by rw [← HEE.out];simp
  subst e1
  have hkt:=HD.out (by simp)
  have hf:w1.cell? ⟨br,0,none⟩=some (.pointer (some ⟨g,0,none⟩)):=hS.1
  by_cases hm:65535<v
  ·have hm':(65535:Int)<(v:Int):=by omega
   clear hS
   go_wp2_with fail
   refine bodyPost_ret (v:= .tuple #[.int .i64 (0:Nat),.int .i64 (0:Nat),.int .i64 15]) (by simp [results,Tryz.results139,go_sem] <;> rfl) rfl ?_
   refine ⟨0,0,15,by simp,⟨?_,fun h=>by cases h⟩,HB1.out⟩
   rw [HU.out];simp [hm]
  ·have hm':¬(65535:Int)<(v:Int):=by omega
   by_cases hn:all.length - (k+t)<v
   ·have hn':(all.length:Int) - ((k+t:Nat):Int)<(v:Int):=by omega
    have hw1:IntKind.i64.wrap ((all.length:Int) - ((k+t:Nat):Int))=(all.length:Int) - ((k+t:Nat):Int):=by rw [IntKind.wrap_i64];omega
    have hw2:IntKind.u64.wrap ((all.length:Int) - ((k+t:Nat):Int))=(all.length:Int) - ((k+t:Nat):Int):=by rw [IntKind.wrap_u64];omega
    clear hS
    go_wp2_with fail
    refine bodyPost_ret (v:= .tuple #[.int .i64 (0:Nat),.int .i64 (0:Nat),.int .i64 4]) (by simp [results,Tryz.results139,go_sem] <;> rfl) rfl ?_
    refine ⟨0,0,4,by simp,⟨?_,fun h=>by cases h⟩,HB1.out⟩
    rw [HU.out];simp [hm,hn]
   ·have hn':¬(all.length:Int) - ((k+t:Nat):Int)<(v:Int):=by omega
    have hw1:IntKind.i64.wrap ((all.length:Int) - ((k+t:Nat):Int))=(all.length:Int) - ((k+t:Nat):Int):=by rw [IntKind.wrap_i64];omega
    have hw2:IntKind.u64.wrap ((all.length:Int) - ((k+t:Nat):Int))=(all.length:Int) - ((k+t:Nat):Int):=by rw [IntKind.wrap_u64];omega
    have hw3:IntKind.i64.wrap (v:Int)=(v:Int):=by rw [IntKind.wrap_i64];omega
    clear hS
    go_wp2_with fail
    refine bodyPost_ret (v:= .tuple #[.int .i64 v,.int .i64 (k+t:Nat),.int .i64 0]) (by simp [results,Tryz.results139,go_sem] <;> rfl) rfl ?_
    refine ⟨v,k+t,0,by simp,⟨?_,fun _=>hkt⟩,HB1.out⟩
    rw [HU.out];simp [hm,hn]
 ·have e2:(er == 0)=false:=by simp [he]
  have e3:(er != 0)=true:=by simp [he]
  clear hS
  go_wp2_with fail
  refine bodyPost_ret (v:= .tuple #[.int .i64 (0:Nat),.int .i64 (0:Nat),.int .i64 er]) (by simp [results,Tryz.results139,go_sem] <;> rfl) rfl ?_
  refine ⟨0,0,er,by simp,⟨?_,fun h=>absurd h he⟩,HB1.out⟩
  rw [HU.out];simp [he]
theorem yM (all:List UInt8) (A:Option Addr) (c k g br:Nat) (w:World) (hg:w.heap[g]?=some (.cells #[.slice A all.length c,.int .i64 k,.int .i64 0] 153)) (hs:Slc 1 RB w A c all) (hk:k≤all.length) (hl:all.length≤1000000) (h1:w.cell? ⟨br,0,none⟩=some (.pointer (some ⟨g,0,none⟩))):
 Calls Tryz.prog 142 #[.pointer (some ⟨br,0,none⟩)] w fun e' w'=>∃(v q:Nat) (er:Int),e' = .returned (.tuple #[.int .u8 v,.int .i64 q,.int .i64 er])∧Ans all byteS k v q er∧Below w.heap.size w w':=by
 have x0:w.cell? ⟨g,0,none⟩=some (.slice A all.length c):=by simp [World.cell?,hg]
 have x1:w.cell? ⟨g,1,none⟩=some (.int .i64 k):=by simp [World.cell?,hg]
 have hle:=hs.le
 have hbg:=hs.big
 have HS:=aF hs
 clear hs hg
 by_cases hlt:k<all.length
 ·have hd:all.drop k=all[k] :: all.drop (k+1):=cI hlt
  obtain ⟨b,o,rfl,hb',r0⟩:=HS.out.sl.at_ hlt
  have HU:Hid (byteS ⟨all.drop k,0⟩=(all[k].toNat,⟨all.drop (k+1),0⟩)):=aF (by unfold byteS;simp only [if_true,hd])
  generalize all[k]=c0 at *
  have x2:w.cell? ⟨b,o+k,none⟩=some (.int .u8 c0.toNat):=by simpa [RB] using r0
  have e1:((k:Int) == (all.length:Int))=false:=by simp;omega
  have e2:IntKind.i64.wrap ((k:Int)+1)=(k:Int)+1:=by rw [IntKind.wrap_i64];omega
  have HLT:=aF (show k+1≤all.length from hlt)
  clear hd r0 HS
  obtain ⟨n0,hn0⟩:∃n0,all.length=n0:=⟨_,rfl⟩
  rw [hn0] at x0 e1 hle hlt hl
  clear hn0
  go_enter Tryz.func142,Tryz.ntmps142
  go_wp2_with fail
  go_quiet (fail)
  go_wp2_with fail
  go_quiet (fail)
  go_wp2_with fail
  refine bodyPost_ret (v:= .tuple #[.int .u8 c0.toNat,.int .i64 ((k:Int)+1),.int .i64 0]) (by simp [results,Tryz.results142,go_sem] <;> rfl) rfl ?_
  refine ⟨c0.toNat,k+1,0,by simp,⟨?_,fun _=>HLT.out⟩,bA (bA (aV _ _) _) _⟩
  rw [HU.out];simp
 ·have hke:k=all.length:=by omega
  have HU:Hid (byteS ⟨all.drop k,0⟩=(0,⟨[],4⟩)):=aF (by unfold byteS;simp [hke])
  have e1:((k:Int) == (all.length:Int))=true:=by simp;omega
  have HKE:=aF hke
  clear HS hke
  go_enter Tryz.func142,Tryz.ntmps142
  go_wp2_with fail
  go_quiet (fail)
  go_wp2_with fail
  refine bodyPost_ret (v:= .tuple #[.int .u8 (0:Nat),.int .i64 (0:Nat),.int .i64 4]) (by simp [results,Tryz.results142,go_sem] <;> rfl) rfl ?_
  refine ⟨0,0,4,by simp,⟨?_,fun h=>by cases h⟩,bA (aV _ _) _⟩
  rw [HU.out];simp
end
section
open Go.RowKit
theorem vN (l:Int) (A:Option Addr) (c:Nat) (ps:List Pj) (w:World) (h:Slc 2 RPj w A c ps):
 Calls Tryz.prog 189 #[.agg #[.int .i64 l,.slice A ps.length c]] w fun e w'=>e = .returned (.int .i64 (chk l ps))∧Below w.heap.size w w':=by
 obtain ⟨hs,hle,hbig⟩:=h
 by_cases hq:l<0∨32<ps.length
 ·go_enter Tryz.func189,Tryz.ntmps189
  go_wp2
  ·go_ret
   exact ⟨ret_i (by simp [chk, *]),(aV _ _).alloc (aW _) _⟩
  ·go_ret
   exact ⟨ret_i (by rw [chk,aX (by omega),aY (by omega)]),(aV _ _).alloc (aW _) _⟩
 have hz:Hid (chk l ps=chkP (ps.drop 0)):=aF (by rw [chk,aX (by omega),aX (by omega)];simp)
 go_enter Tryz.func189,Tryz.ntmps189
 go_wp2
 go_loopw [3] (fun v wr=>∃k:Nat,k≤ps.length∧v = .int .i64 k∧wr.cell? ⟨w.heap.size,1,none⟩=some (.slice A ps.length c)∧w.heap.size<wr.heap.size∧Below w.heap.size w wr∧Hid (chk l ps=chkP (ps.drop k))) (fun v _=>ps.length - (intOf v).toNat)
 case atStart=>exact ⟨0,by omega,rfl,by simp,by simp,(aV _ _).alloc (aW _) _,hz⟩
 case round=>
  obtain ⟨k,hk,rfl,hcA,hlt0,hB,he⟩:=hrel
  clear hz
  by_cases hlt:k<ps.length
  ·obtain ⟨b,off,rfl,hb,hr⟩:=hs.at_ hlt
   have hd:=aF (cU hlt)
   generalize ps[k]=x at hr hd
   obtain ⟨g1,g2⟩:=RPj.keeps _ _ _ w.heap.size _ _ _ (aW _) hb hB hr
   have hsz:=hB.size
   clear hr hs
   go_wp2
   all_goals
    first
    | (go_ret
       exact ⟨ret_i (by rw [he.out,hd.out,chkP];grind),hB.alloc hsz _⟩)
    | (go_roundw
       case rel=>exact ⟨k+1,by omega,by go_num,by go_simp,by simp;omega,hB.alloc hsz _,aF (by rw [he.out,hd.out,chkP];grind)⟩
       case measure=>simp [intOf];omega)
  ·have hd:ps.drop k=[]:=bD (by omega)
   have hfin:Hid (chk l ps=0):=aF (by rw [he.out,hd,chkP])
   clear he hd hs
   go_wp2
   go_ret
   exact ⟨ret_i hfin.out.symm,hB⟩
end
end Go.Proofs.YtbnljlpefpllcaaGreatDoor
