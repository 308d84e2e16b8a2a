/-
  Parts of the proof: V19 V4 V5 V6 V7 V8 V9 W13 V27.
-/
import Derived.Test.YtbnljlpefpllcaaGreatDoorME0
import Derived.Test.YtbnljlpefpllcaaGreatDoorME4
import Derived.Test.YtbnljlpefpllcaaGreatDoorME3
namespace Go.Proofs.YtbnljlpefpllcaaGreatDoor
set_option maxRecDepth 100000
set_option maxHeartbeats 16000000
section
open Go Go.RowKit
def TyOk (ts:List Ty):Prop:=∀i (h:i<ts.length),(ts[i].kind=3→0≤ts[i].elem∧ts[i].elem<i∧ts[i].flds=[])∧∀f∈ts[i].flds,0≤f∧f<i
theorem gH {ts:List Ty} (hok:TyOk ts):∀(f g:Nat) (i:Int),i.toNat<f→i.toNat<g→copF ts f i=copF ts g i
 | 0,_,_,h,_=>absurd h (by omega)
 | _,0,_,_,h=>absurd h (by omega)
 | f+1,g+1,i,h,h2=>by
   rw [copF,copF]
   by_cases hi:i<0
   ·rw [aY hi,aY hi]
   rw [aX hi,aX hi]
   by_cases hlt:i.toNat<ts.length
   ·rw [bB hlt]
    simp only
    split
    ·rfl
    ·rw [bQ,List.all_eq_true,List.all_eq_true]
     have hf:=(hok i.toNat hlt).2
     constructor <;> intro h0 x hx
     ·rw [← gH hok f g x (by have:=hf x hx;omega) (by have:=hf x hx;omega)];exact h0 x hx
     ·rw [gH hok f g x (by have:=hf x hx;omega) (by have:=hf x hx;omega)];exact h0 x hx
   ·rw [cE (by omega)]
theorem sS {ts:List Ty} (hok:TyOk ts) {i:Nat} (h:i<ts.length):copB ts i=if ts[i].kind=3 then !ts[i].mu else ts[i].flds.all (copB ts):=by
 unfold copB
 rw [bV,copF,aX (by omega),bV,bB h]
 simp only
 split
 ·rfl
 ·rw [bQ,List.all_eq_true,List.all_eq_true]
  have hf:=(hok i h).2
  constructor <;> intro h0 x hx
  ·rw [gH hok _ i x (by omega) (by have:=hf x hx;omega)];exact h0 x hx
  ·rw [gH hok i _ x (by have:=hf x hx;omega) (by omega:x.toNat<x.toNat+1)];exact h0 x hx
theorem uL {ts:List Ty} {i:Int} (h:i<0∨(ts.length:Int)≤i):copB ts i=false:=by
 unfold copB
 rw [copF]
 by_cases hi:i<0
 ·rw [aY hi]
 ·rw [aX hi,cE (by omega)]
theorem tO (ts:List Ty) (hok:TyOk ts):∀(m:Nat) (i:Int),i.toNat<m→∀(A:Option Addr) (c:Nat) (w:World),Slc 5 RTy w A c ts→
 Calls Tryz.prog 152 #[.slice A ts.length c,.int .i64 i] w fun e' w'=>e' = .returned (.bool (copB ts i))∧w'=w
 | 0,_,h=>absurd h (by omega)
 | m+1,i,hm=>by
   intro A c w hs
   have hle:=hs.le
   have hbig:=hs.big
   have HS:=aF hs
   have HREC:=aF (fun (f:Int) (hf:f.toNat<m)=>tO ts hok m f hf A c w hs)
   clear hs
   by_cases hr:0≤i∧i<(ts.length:Int)
   case neg=>
    rw [uL (by omega)]
    go_enter Tryz.func152,Tryz.ntmps152
    go_wp2_with fail
    all_goals first
     | (exfalso;omega)
     | (go_ret;exact ⟨rfl,rfl⟩)
   case pos=>
   obtain ⟨k,rfl⟩:=bF hr.1
   have hlt:k<ts.length:=by omega
   obtain ⟨b,o,rfl,hb,hx⟩:=HS.out.sl.at_ hlt
   have HQ:=aF (sS hok hlt)
   have HOKK:=aF (hok k hlt)
   obtain ⟨t,ht⟩:∃t,ts[k]=t:=⟨_,rfl⟩
   rw [ht] at HQ HOKK hx
   generalize copB ts (k:Int)=q at HQ ⊢
   obtain ⟨r1,r2,r3,r4,A2,c2,r5,r6,r7,r8⟩:=hx
   have HFL:Hid (Slc 1 RInt w A2 c2 t.flds):=aF ⟨r8,r6,r7⟩
   have hk1:k<m+1:=by simpa using hm
   have e0:¬(k:Int)<0:=by omega
   have e1:¬(ts.length:Int)≤(k:Int):=by omega
   clear r8 ht hr hm
   go_enter Tryz.func152,Tryz.ntmps152
   go_wp2_with fail
   go_loop [5] (fun v=>∃j:Nat,j≤t.flds.length∧v = .int .i64 j∧Hid (∀u,(t.flds.take j).all (copB ts)=true∧(u=j→True))) (fun v=>t.flds.length - (intOf v).toNat)
   case atStart=>exact ⟨0,by omega,rfl,aF (fun _=>⟨by simp,fun _=>trivial⟩)⟩
   case round=>
    obtain ⟨j,hj,rfl,HJ⟩:=hrel
    by_cases hjl:j<t.flds.length
    ·obtain ⟨b3,o3,rfl,hb3,hy⟩:=HFL.out.sl.at_ hjl
     have HTK:Hid ((t.flds.take (j+1)).all (copB ts)=((t.flds.take j).all (copB ts) && copB ts t.flds[j])):=aF (by rw [bE hjl,List.all_append];simp)
     have HMEM:=aF (bM hjl)
     obtain ⟨y,hyy⟩:∃y,t.flds[j]=y:=⟨_,rfl⟩
     rw [hyy] at hy HTK HMEM
     have y0:w.cell? ⟨b3,o3+j,none⟩=some (.int .i64 y):=by simpa [RInt] using hy
     have HC:=aF (HREC.out y (by have:=HOKK.out.2 y HMEM.out;omega))
     have HF:Hid (copB ts y=false→q=false):=aF (fun h=>by
      rw [HQ.out,aX (fun h3=>by have:=(HOKK.out.1 h3).2.2;rw [this] at hjl;simp at hjl)]
      rw [Bool.eq_false_iff,ne_eq,List.all_eq_true]
      exact fun h0=>by have:=h0 y HMEM.out;rw [h] at this;cases this)
     clear hy hyy
     cases hcy:copB ts y
     ·rw [hcy] at HC
      have HF':=aF (HF.out hcy)
      clear HF HJ hcy
      go_wp2_with (go_at_call 152;refine HC.out.mono ?_;rintro e' w1 ⟨rfl,hw⟩;obtain rfl:=hw.symm)
      go_ret
      exact ⟨by rw [HF'.out];rfl,rfl⟩
     ·rw [hcy] at HC
      have HJ':Hid (∀u,(t.flds.take (j+1)).all (copB ts)=true∧(u=j+1→True)):=aF (fun u=>⟨by rw [HTK.out,(HJ.out 0).1,hcy];rfl,fun _=>trivial⟩)
      clear HF HJ hcy
      go_wp2_with (go_at_call 152;refine HC.out.mono ?_;rintro e' w1 ⟨rfl,hw⟩;obtain rfl:=hw.symm)
      go_round
      case rel=>exact ⟨j+1,by omega,by go_num,HJ'⟩
      case measure=>simp [intOf];omega
    ·have hall:t.flds.all (copB ts)=true:=by have:=(HJ.out 0).1;rwa [List.take_of_length_le (by omega)] at this
     by_cases h3:t.kind=3
     ·have HF:Hid (q = !t.mu):=aF (by rw [HQ.out,aY h3])
      have e5:(t.kind != 3)=false:=by simp [h3]
      clear HJ hall HQ
      go_wp2_with fail
      go_ret
      exact ⟨by rw [HF.out];rfl,rfl⟩
     ·have HF:Hid (q=true):=aF (by rw [HQ.out,aX h3,hall])
      have e5:(t.kind != 3)=true:=by simp [h3]
      clear HJ hall HQ
      go_wp2_with fail
      go_ret
      exact ⟨by rw [HF.out];rfl,rfl⟩
theorem gB (l:List Int) (A:Option Addr) (c:Nat) (w:World) (hs:Slc 1 RInt w A c l):
 Calls Tryz.prog 118 #[.slice A l.length c] w fun e' w'=>e' = .returned (.int .i64 (firstE l))∧w'=w:=by
 have hle:=hs.le
 have hbig:=hs.big
 obtain ⟨R,hR⟩:∃R,firstE l=R:=⟨_,rfl⟩
 rw [hR]
 have HR:=aF hR
 have HS:=aF hs
 clear hR hs
 go_enter Tryz.func118,Tryz.ntmps118
 go_wp2_with fail
 go_loop [7] (fun v=>∃k:Nat,k≤l.length∧v = .int .i64 k∧Hid (R=firstE (l.drop k))) (fun v=>l.length - (intOf v).toNat)
 case atStart=>exact ⟨0,by omega,rfl,aF HR.out.symm⟩
 case round=>
  obtain ⟨k,hk,rfl,hr⟩:=hrel
  by_cases hlt:k<l.length
  ·have hd:=cU hlt
   obtain ⟨b,o,rfl,hb,hx⟩:=HS.out.sl.at_ hlt
   obtain ⟨y,hy⟩:∃y,l[k]=y:=⟨_,rfl⟩
   rw [hy] at hd hx
   have x0:w.cell? ⟨b,o+k,none⟩=some (.int .i64 y):=by simpa [RInt] using hx
   clear hx
   by_cases h0:y=0
   ·have HN:Hid (R=firstE (l.drop (k+1))):=aF (by rw [hr.out,hd,firstE,aY h0])
    clear hd hr hy
    go_wp2_with fail
    go_round
    case rel=>exact ⟨k+1,by omega,by go_num,HN⟩
    case measure=>simp [intOf];omega
   ·have HN:Hid (R=y):=aF (by rw [hr.out,hd,firstE,aX h0])
    have e1:(y == 0)=false:=by simp [h0]
    clear hd hr hy h0
    go_wp2_with fail
    go_ret
    exact ⟨by rw [HN.out];rfl,rfl⟩
  ·have HN:Hid (R=0):=aF (by rw [hr.out,bD (by omega)];rfl)
   clear hr
   go_wp2_with fail
   go_ret
   exact ⟨by rw [HN.out];rfl,rfl⟩
def depQ:Option Int→Int × Bool
 | none=>(0,false)
 | some k=>(k,true)
def depP (ds l:List Int):Int × Bool:=depQ (depF ds 0 l)
theorem fF (ds l:List Int) (g:Nat) (A B:Option Addr) (c d:Nat) (w:World) (hg:w.cell? ⟨g,1,none⟩=some (.slice B ds.length d)) (hd:Slc 1 RInt w B d ds) (hs:Slc 1 RInt w A c l):
 Calls Tryz.prog 206 #[.pointer (some ⟨g,0,none⟩),.slice A l.length c] w fun e' w'=>e' = .returned (.tuple #[.int .i64 (depP ds l).1,.bool (depP ds l).2])∧w'=w:=by
 have hle:=hs.le
 have hbig:=hs.big
 have dle:=hd.le
 have dbig:=hd.big
 obtain ⟨R,hR⟩:∃R,depF ds 0 l=R:=⟨_,rfl⟩
 unfold depP
 rw [hR]
 have HR:=aF hR
 have HS:=aF hs
 have HD:=aF hd
 clear hR hs hd
 obtain ⟨q,hq⟩:∃q:Int × Bool,depQ R=q:=⟨_,rfl⟩
 rw [hq]
 have HQ:=aF hq
 clear hq
 go_enter Tryz.func206,Tryz.ntmps206
 go_wp2_with fail
 go_loop [6,11] (fun a v=>∃(k:Nat) (m:Int),k≤l.length∧a = .int .i64 m∧v = .int .i64 k∧Hid (R=depF ds m (l.drop k))) (fun _ v=>l.length - (intOf v).toNat)
 case atStart=>exact ⟨0,0,by omega,rfl,rfl,aF HR.out.symm⟩
 case round=>
  obtain ⟨k,m,hk,rfl,rfl,hr⟩:=hrel
  by_cases hlt:k<l.length
  ·have hdr:=cU hlt
   obtain ⟨b,o,rfl,hb,hx⟩:=HS.out.sl.at_ hlt
   obtain ⟨y,hy⟩:∃y,l[k]=y:=⟨_,rfl⟩
   rw [hy] at hdr hx
   have x0:w.cell? ⟨b,o+k,none⟩=some (.int .i64 y):=by simpa [RInt] using hx
   clear hx hy
   by_cases h1:y<0
   ·have HN:Hid (q=(0,false)):=aF (by rw [← HQ.out,hr.out,hdr,depF,aY h1];rfl)
    clear hdr hr
    go_wp2_with fail
    go_ret2
    exact ⟨by rw [HN.out];rfl,rfl⟩
   ·obtain ⟨n,rfl⟩:=bF (show 0≤y by omega)
    by_cases h2:n<ds.length
    ·obtain ⟨b2,o2,rfl,hb2,hz⟩:=HD.out.sl.at_ h2
     have HN:Hid (R=depF ds (max m ds[n]) (l.drop (k+1))):=aF (by rw [hr.out,hdr,depF,aX h1,bV,bB h2])
     obtain ⟨z,hzz⟩:∃z,ds[n]=z:=⟨_,rfl⟩
     rw [hzz] at hz HN
     have x1:w.cell? ⟨b2,o2+n,none⟩=some (.int .i64 z):=by simpa [RInt] using hz
     clear hdr hr hz hzz
     go_wp2_with fail
     go_round
     case rel=>exact ⟨k+1,max m z,by omega,by go_num,by go_num,HN⟩
     case measure=>simp [intOf];omega
    ·have HN:Hid (q=(0,false)):=aF (by rw [← HQ.out,hr.out,hdr,depF,aX h1,bV,cE (by omega)];rfl)
     clear hdr hr
     go_wp2_with fail
     go_ret2
     exact ⟨by rw [HN.out];rfl,rfl⟩
  ·have HN:Hid (q=(m,true)):=aF (by rw [← HQ.out,hr.out,bD (by omega)];rfl)
   clear hr
   go_wp2_with fail
   go_ret2
   exact ⟨by rw [HN.out];rfl,rfl⟩
theorem ty_eq (s t:Ty):decide (s=t)=(decide (s.kind=t.kind) && decide (s.mu=t.mu) && decide (s.reg=t.reg) && decide (s.elem=t.elem) && decide (s.flds=t.flds)):=by
 cases s;cases t
 simp [Bool.and_assoc]
theorem xEX (s t:Ty) (A B:Option Addr) (c d:Nat) (w:World) (hs:Slc 1 RInt w A c s.flds) (ht:Slc 1 RInt w B d t.flds):
 Calls Tryz.prog 209 #[tyAgg s A c,tyAgg t B d] w fun e' w'=>e' = .returned (.bool (decide (s=t)))∧Below w.heap.size w w':=by
 obtain ⟨r,hr⟩:∃r,decide (s.flds=t.flds)=r:=⟨_,rfl⟩
 have HE:=aF (fun W hb=>zV A B c d s.flds t.flds W (hs.keep RInt.keeps hb) (ht.keep RInt.keeps hb))
 rw [ty_eq,hr]
 rw [hr] at HE
 clear hs ht hr
 unfold tyAgg
 obtain ⟨q,hq⟩:∃q,(decide (s.kind=t.kind) && decide (s.mu=t.mu) && decide (s.reg=t.reg) && decide (s.elem=t.elem) && r)=q:=⟨_,rfl⟩
 rw [hq]
 have HQ:=aF hq
 clear hq
 go_enter Tryz.func209,Tryz.ntmps209
 go_wp2_with (go_at_call 228;refine (HE.out _ (bel2 _ _ _)).mono ?_;rintro e' w1 ⟨rfl,n,rfl⟩)
 all_goals
  go_ret
  refine ⟨?_,aG⟩
  rw [← HQ.out]
  simp_all
theorem zO (x t:Ty) (A:Option Addr) (c h:Nat) (w:World) (hx:Slc 1 RInt w A c x.flds) (hh:h<w.heap.size) (ht:RTy w w.heap.size h 0 t):
 Calls Tryz.prog 208 #[tyAgg x A c,.pointer (some ⟨h,0,none⟩)] w fun e' w'=>e' = .returned (.bool (decide (x=t)))∧Below w.heap.size w w':=by
 obtain ⟨r1,r2,r3,r4,A2,c2,r5,r6,r7,r8⟩:=ht
 have HE:=aF (fun W hb=>xEX x t A A2 c c2 W (hx.keep RInt.keeps hb) ((⟨r8,r6,r7⟩:Slc 1 RInt w A2 c2 t.flds).keep RInt.keeps hb))
 generalize decide (x=t)=q at HE ⊢
 unfold tyAgg at HE ⊢
 have hls:=dL hh
 clear hx r8
 go_enter Tryz.func208,Tryz.ntmps208
 go_wp2_with (go_at_call 209;refine (HE.out _ ((aV _ _).alloc (aW _) _)).mono ?_;rintro e' w1 ⟨rfl,hb1⟩)
 go_ret
 exact ⟨rfl,((aV _ _).alloc (aW _) _).trans (hb1.mono (by simp))⟩
def eqT (t x:Ty):Bool:=decide (x=t)
theorem zN (ts:List Ty) (t:Ty) (A:Option Addr) (c h:Nat) (w:World) (hs:Slc 5 RTy w A c ts) (hh:h<w.heap.size) (ht:RTy w w.heap.size h 0 t):
 Calls Tryz.prog 207 #[.slice A ts.length c,.func (.func 208) #[] #[.pointer (some ⟨h,0,none⟩)]] w fun e' w'=>e' = .returned (.int .i64 (idxF (eqT t) 0 ts))∧Below w.heap.size w w':=by
 have hle:=hs.le
 have hbig:=hs.big
 obtain ⟨R,hR⟩:∃R,idxF (eqT t) 0 ts=R:=⟨_,rfl⟩
 rw [hR]
 have HR:=aF hR
 have HS:=aF hs
 have HT:=aF ht
 clear hR hs ht
 go_enter Tryz.func207,Tryz.ntmps207
 go_wp2_with fail
 go_loopw [8] (fun v wr=>∃k:Nat,k≤ts.length∧v = .int .i64 k∧Hid (Below w.heap.size w wr)∧Hid (R=idxF (eqT t) k (ts.drop k))) (fun v _=>ts.length - (intOf v).toNat)
 case atStart=>exact ⟨0,by omega,rfl,aF (aV _ _),aF HR.out.symm⟩
 case round=>
  obtain ⟨k,hk,rfl,hB,hr⟩:=hrel
  by_cases hlt:k<ts.length
  ·have hd:=cU hlt
   obtain ⟨b,o,rfl,hb,hx⟩:=(HS.out.keep RTy.keeps hB.out).sl.at_ hlt
   obtain ⟨x,hxx⟩:∃x,ts[k]=x:=⟨_,rfl⟩
   rw [hxx] at hd hx
   obtain ⟨r1,r2,r3,r4,A2,c2,r5,r6,r7,r8⟩:=hx
   have HC:=aF (zO x t A2 c2 h wr ⟨r8,r6,r7⟩ (bN hh hB.out.size) (RTy.keeps w wr _ _ h 0 t hB.out.size hh hB.out HT.out))
   change Hid (Calls Tryz.prog 208 _ _ fun e' w'=>e' = .returned (.bool (eqT t x))∧_) at HC
   have hsz:=hB.out.size
   have HN:Hid (R=if eqT t x=true then (k:Int) else idxF (eqT t) (k+1) (ts.drop (k+1))):=aF (by rw [hr.out,hd];rfl)
   generalize eqT t x=q at HC HN
   clear hd hr hxx r8
   unfold tyAgg at HC
   cases q
   ·have HF:Hid (R=idxF (eqT t) (k+1) (ts.drop (k+1))):=HN
    clear HN
    go_wp2_with (go_at_call 208;refine HC.out.mono ?_;rintro e' w1 ⟨rfl,hb1⟩)
    go_roundw
    case rel=>exact ⟨k+1,by omega,by go_num,aF (hB.out.trans (hb1.mono hsz)),HF⟩
    case measure=>simp [intOf];omega
   ·have HF:Hid (R=k):=HN
    clear HN
    go_wp2_with (go_at_call 208;refine HC.out.mono ?_;rintro e' w1 ⟨rfl,hb1⟩)
    go_ret
    exact ⟨by rw [HF.out];rfl,hB.out.trans (hb1.mono hsz)⟩
  ·have HN:Hid (R = -1):=aF (by rw [hr.out,bD (by omega)];rfl)
   clear hr
   go_wp2_with fail
   go_ret
   exact ⟨by rw [HN.out];rfl,hB.out⟩
theorem xGK (t:Ty) (ts:List Ty):ts.any (eqT t)=decide (t∈ts):=by
 rw [bQ]
 simp only [List.any_eq_true,eqT,decide_eq_true_eq]
 exact ⟨fun ⟨x,h,e⟩=>e ▸ h,fun h=>⟨t,h,rfl⟩⟩
def findP (b:Bool) (e':Ending):Prop:=∃i:Int,e' = .returned (.tuple #[.int .i64 i,.bool b])
theorem zM (ts:List Ty) (t:Ty) (A B:Option Addr) (c d:Nat) (w:World) (hs:Slc 5 RTy w A c ts) (ht:Slc 1 RInt w B d t.flds):
 Calls Tryz.prog 174 #[.slice A ts.length c,tyAgg t B d] w fun e' w'=>findP (decide (t∈ts)) e'∧Below w.heap.size w w':=by
 have hb0:Below w.heap.size w (w.alloc (.cells #[.int .i64 t.kind,.bool t.mu,.int .i64 t.reg,.int .i64 t.elem,.slice B t.flds.length d] 83)):=(aV _ _).alloc (aW _) _
 have HI:=aF (zN ts t A c w.heap.size _ (hs.keep RTy.keeps hb0) (by simp) (show RTy _ _ w.heap.size 0 t from by
  have h:∀i v,#[Value.int .i64 t.kind,.bool t.mu,.int .i64 t.reg,.int .i64 t.elem,.slice B t.flds.length d][i]?=some v→(w.alloc (.cells #[.int .i64 t.kind,.bool t.mu,.int .i64 t.reg,.int .i64 t.elem,.slice B t.flds.length d] 83)).cell? ⟨w.heap.size,i,none⟩=some v:=fun i v hi=>by
   rw [World.cell?_alloc_at _ _ _ _ (by simp)]
   exact hi
  exact ⟨h 0 _ rfl,h 1 _ rfl,h 2 _ rfl,h 3 _ rfl,B,d,h 4 _ rfl,ht.le,ht.big,(ht.sl.keep RInt.keeps hb0.size hb0)⟩))
 have hx:=jG (eqT t) ts 0
 rw [xGK] at hx
 rw [← hx]
 clear hs ht hx
 generalize idxF (eqT t) 0 ts=i at HI ⊢
 unfold tyAgg
 have HB:=aF hb0
 clear hb0
 go_enter Tryz.func174,Tryz.ntmps174
 go_wp2_with (go_at_call 207;refine HI.out.mono ?_;rintro e' w1 ⟨rfl,hb1⟩)
 all_goals
  go_ret2
  exact ⟨⟨_,rfl⟩,HB.out.trans (hb1.mono HB.out.size)⟩
structure Stp2 (row:Option Nat) (g:Nat) (w w':World):Prop where
 os:w'.os=w.os
 tape:w'.tape=w.tape
 output:w'.output=w.output
 size:w.heap.size≤w'.heap.size
 block:∀k,k<w.heap.size→k≠g→some k≠row→w'.heap[k]?=w.heap[k]?
theorem Stp2.of_below {row:Option Nat} {g:Nat} {w w':World} (h:Below w.heap.size w w'):Stp2 row g w w':=⟨h.os,h.tape,h.output,h.size,fun k hk _ _=>h.block k hk⟩
theorem Stp2.below {row:Option Nat} {g B:Nat} {a b:World} (h:Stp2 row g a b) (hg:B≤g) (hr:∀k,row=some k→B≤k) (hB:B≤a.heap.size):Below B a b:=
 ⟨h.os,h.tape,h.output,h.size,fun k hk=>h.block k (by omega) (by omega) (fun e=>by have:=hr k e.symm;omega)⟩
theorem Stp2.set {row:Option Nat} {g:Nat} {a b:World} (h:Stp2 row g a b) (o:Nat) (v:Value):Stp2 row g a (b.setCell ⟨g,o,none⟩ v):=
 ⟨h.os,h.tape,h.output,by simpa [World.setCell] using h.size,fun k hk hg hr=>(bG b ⟨g,o,none⟩ v k hg).trans (h.block k hk hg hr)⟩
theorem Stp2.grown {g:Nat} {a b c:World} {row:Option Nat} (h:Below a.heap.size a b) (hg:b.grownBy c row):Stp2 row g a c:=
 ⟨hg.os.trans h.os,hg.tape.trans h.tape,hg.output.trans h.output,bX h.size hg.size,fun k hk _ hr=>(hg.block k (bN hk h.size) hr).trans (h.block k hk)⟩
theorem yS {w:World} {k:Nat} {a b:Value} {t:TypeId} (x:Value) (h:w.heap[k]?=some (.cells #[a,b] t)):(w.setCell ⟨k,1,none⟩ x).heap[k]?=some (.cells #[a,x] t):=by
 simp [World.setCell,Array.getElem?_modify,h]
theorem eI {w:World} {k:Nat} {a b:Value} {t:TypeId} (h:w.heap[k]?=some (.cells #[a,b] t)):w.cell? ⟨k,0,none⟩=some a∧w.cell? ⟨k,1,none⟩=some b∧w.frozen? ⟨k,0,none⟩=false∧w.frozen? ⟨k,1,none⟩=false:=by
 simp [World.cell?,World.frozen?,h]
def addE (d:List Int) (n:Int) (t:Ty):Int × Int:=
 if t.kind<0∨4<t.kind then (14,0)
 else if (t.kind≠3∧(t.mu=true∨t.reg≠0∨t.elem≠0))∨(t.kind≠4∧0<t.flds.length) then (2,0)
 else if t.kind=3∧(t.reg<0∨n≤t.reg) then (3,0)
 else match depF d 0 (if t.kind=3 then [t.elem] else t.flds) with
  | none=>(3,0)
  | some k=>
    if t.kind=4∧(t.flds.length=0∨65535<t.flds.length) then (15,0)
    else if 32≤k then (19,0)
    else (0,k+1)
theorem xEV (prev:List Ty) (d:List Int) (n:Int) (t:Ty):tyE prev d n t=if (addE d n t).1=0∧t∈prev then (21,0) else addE d n t:=by
 unfold tyE addE
 generalize depF d 0 (if t.kind=3 then [t.elem] else t.flds)=o
 split
 ·simp
 split
 ·simp
 split
 ·simp
 cases o with
 | none=>simp
 | some k=>
   simp only
   split
   ·simp
   split
   ·simp
   split
   ·rw [aY (by simpa)]
   ·rw [aX (by simpa)]
def addP (base g:Nat) (row:Option Nat) (n:Int) (ds:List Int) (r:Int × Int) (w:World) (e':Ending) (w':World):Prop:=
 e' = .returned (.int .i64 r.1)∧Stp2 row g w w'∧(r.1=0→∃v',w'.heap[g]?=some (.cells #[.int .i64 n,v'] 239)∧w'.ownsRow base 3 1 v' (ds ++ [r.2]).length ((ds ++ [r.2]).map (Value.int .i64)))
theorem fL {base g:Nat} {row:Option Nat} {n:Int} {ds:List Int} {q:Int} {w:World} {w':World} (h:Stp2 row g w w') (hq:q≠0):addP base g row n ds (q,0) w (.returned (.int .i64 q)) w':=⟨rfl,h,fun h=>absurd h hq⟩
theorem xDV (ds:List Int) (n:Int) (t:Ty) (g base:Nat) (v:Value) (A:Option Addr) (c:Nat) (w:World) (_hg:w.heap[g]?=some (.cells #[.int .i64 n,v] 239)) (_hown:w.ownsRow base 3 1 v ds.length (ds.map (Value.int .i64))) (_hgb:g<base) (hb:base≤w.heap.size) (_hl:ds.length≤65535) (_ht:Slc 1 RInt w A c t.flds) (hbad:t.kind<0∨4<t.kind):
 Calls Tryz.prog 173 #[.pointer (some ⟨g,0,none⟩),tyAgg t A c] w fun e' w'=>addP base g v.ownBlock n ds (addE ds n t) w e' w':=by
 have HF:Hid (addE ds n t=(14,0)):=aF (by unfold addE;rw [aY hbad])
 have e0:(t.kind == 0)=false:=by simp;omega
 have e1:(t.kind == 1)=false:=by simp;omega
 have e2:(t.kind == 2)=false:=by simp;omega
 have e3:(t.kind == 3)=false:=by simp;omega
 have e4:(t.kind == 4)=false:=by simp;omega
 have HB:=aF hb
 rw [HF.out]
 clear _hg _hown _ht hbad
 unfold tyAgg
 go_enter Tryz.func173,Tryz.ntmps173
 go_wp2_with fail
 go_ret
 exact fL (Stp2.of_below ((aV _ _).alloc (aW _) _)) (by omega)
theorem xDW (ds:List Int) (n:Int) (t:Ty) (g base:Nat) (v:Value) (A:Option Addr) (c:Nat) (w:World) (_hg:w.heap[g]?=some (.cells #[.int .i64 n,v] 239)) (_hown:w.ownsRow base 3 1 v ds.length (ds.map (Value.int .i64))) (_hgb:g<base) (hb:base≤w.heap.size) (_hl:ds.length≤65535) (_ht:Slc 1 RInt w A c t.flds) (hk0:0≤t.kind) (hk4:t.kind≤4) (hbad:(t.kind≠3∧(t.mu=true∨t.reg≠0∨t.elem≠0))∨(t.kind≠4∧0<t.flds.length)):
 Calls Tryz.prog 173 #[.pointer (some ⟨g,0,none⟩),tyAgg t A c] w fun e' w'=>addP base g v.ownBlock n ds (addE ds n t) w e' w':=by
 have HF:Hid (addE ds n t=(2,0)):=aF (by unfold addE;rw [aX (by omega),aY hbad])
 have HB:=aF hb
 rw [HF.out]
 clear _hown _ht _hg
 unfold tyAgg
 obtain ⟨k,mu,rg,el,fl⟩:=t
 simp only at *
 rcases (show k=0∨k=1∨k=2∨k=3∨k=4 by omega) with rfl | rfl | rfl | rfl | rfl
 all_goals
  go_enter Tryz.func173,Tryz.ntmps173
  go_wp2_with fail
  all_goals first
   | (go_ret;exact fL (Stp2.of_below ((aV _ _).alloc (aW _) _)) (by omega))
   | (exfalso;clear HF HB;grind)
theorem gW {ds l:List Int} {o:Option Int} (h:depF ds 0 l=o):depP ds l=depQ o:=by unfold depP;rw [h]
structure Shape (n:Int) (t:Ty):Prop where
 k0:0≤t.kind
 k4:t.kind≤4
 plain:t.kind≠3→t.mu=false∧t.reg=0∧t.elem=0
 flat:t.kind≠4→t.flds=[]
 reg:t.kind=3→0≤t.reg∧t.reg<n
theorem xGL (ds:List Int) (n:Int) (t:Ty) (g base:Nat) (v:Value) (A:Option Addr) (c:Nat) (w:World) (hg:w.heap[g]?=some (.cells #[.int .i64 n,v] 239)) (_hown:w.ownsRow base 3 1 v ds.length (ds.map (Value.int .i64))) (hgb:g<base) (hb:base≤w.heap.size) (_hl:ds.length≤65535) (_ht:Slc 1 RInt w A c t.flds) (hk:t.kind=3) (hf:t.flds=[]) (hbad:t.reg<0∨n≤t.reg):
 Calls Tryz.prog 173 #[.pointer (some ⟨g,0,none⟩),tyAgg t A c] w fun e' w'=>addP base g v.ownBlock n ds (addE ds n t) w e' w':=by
 have HF:Hid (addE ds n t=(3,0)):=aF (by unfold addE;rw [aX (by omega),aX (by simp [hk,hf]),aY ⟨hk,hbad⟩])
 have HB:=aF hb
 obtain ⟨x0,x1,f0,f1⟩:=eI hg
 rw [HF.out]
 clear _hown _ht hg
 unfold tyAgg
 obtain ⟨k,mu,rg,el,fl⟩:=t
 simp only at *
 subst hk hf
 simp only [bO]
 have HBD:Hid (∀m,Below w.heap.size w ((w.alloc (.cells #[.int .i64 3,.bool mu,.int .i64 rg,.int .i64 el,.slice A 0 c] 83)).drewN m)):=aF (fun m=>bA ((aV _ _).alloc (aW _) _) _)
 by_cases hr:rg<0
 ·have e1:decide (rg<0)=true:=by simp [hr]
  go_enter Tryz.func173,Tryz.ntmps173
  go_wp2_with fail
  go_quiet (fail)
  go_wp2_with fail
  go_ret
  exact fL (Stp2.of_below (HBD.out _)) (by omega)
 ·have e1:decide (rg<0)=false:=by simp;omega
  have e2:n≤rg:=by omega
  have hge:g<w.heap.size:=by omega
  go_enter Tryz.func173,Tryz.ntmps173
  go_wp2_with fail
  go_quiet (fail)
  go_wp2_with fail
  go_ret
  exact fL (Stp2.of_below (HBD.out _)) (by omega)
theorem xFD (W:World) (x:Int) (T:TypeId):Slc 1 RInt (W.alloc (.cells #[.int .i64 x] T)) (some ⟨W.heap.size,0,none⟩) 1 [x]:=by
 refine ⟨fun _=>⟨_,_,rfl,by simp,fun i y hi=>?_⟩,by simp,by omega⟩
 cases i with
 | zero=>
   simp at hi
   subst hi
   show (W.alloc _).cell? ⟨W.heap.size,0,none⟩=_
   rw [World.cell?_alloc_at _ _ _ _ (by simp)]
   rfl
 | succ i=>simp at hi
theorem jQ (W:World) (x:Int) (T:TypeId) (k:Nat) (hk:k=W.heap.size):Slc 1 RInt (W.alloc (.cells #[.int .i64 x] T)) (some ⟨k,0,none⟩) 1 [x]:=by
 subst hk
 exact xFD W x T
theorem dF (w:World) (n:Nat):(w.drewN n).heap.size=w.heap.size:=rfl
theorem eM (W:World) (x:Value) (t:TypeId) (k:Nat) (hk:k=W.heap.size):∀j u,[x][j]?=some u→(W.alloc (.cells #[x] t)).cell? ((⟨k,0,none⟩:Addr).add j)=some u:=by
 subst hk
 exact cell_one_new W x t
theorem lD {w:World} {base size m:Nat} {e:TypeId} {v:Value} {xs:List Value} (h:w.ownsRow base e size v m xs):∃A c,v = .slice A m c∧m≤c∧c≤9223372036854775807:=by
 rcases h.2 with ⟨rfl,hn⟩ | ⟨g,cap,cur,rfl,hb,hh,hnc,hm,_,_⟩
 ·subst hn
  exact ⟨none,0,rfl,by omega,by omega⟩
 ·exact ⟨_,cap,rfl,by simpa using hnc,by simp only [maxLen] at hm;omega⟩
theorem xFE {α : Type} {k:Nat} {R:Rd α} {W:World} {A:Option Addr} {c:Nat} (h:c≤9223372036854775807):Slc k R W A c ([]:List α):=⟨Sl.nil,by simp,h⟩
theorem kH {w W w2:World} {g base size m:Nat} {e:TypeId} {v:Value} {xs:List Value} {o:Obj} (hgrow:W.grownBy w2 v.ownBlock) (hB:Below w.heap.size w W) (hg:w.heap[g]?=some o) (hown:w.ownsRow base e size v m xs) (hgb:g<base):w2.heap[g]?=some o:=by
 have hlt:=(Array.getElem?_eq_some_iff.1 hg).1
 exact ((hgrow.block g (bN hlt hB.size) (dG hown hgb)).trans (hB.block g hlt)).trans hg
theorem lX {w W w2:World} {g base:Nat} {n k:Int} {ds:List Int} {v v':Value} (hB:Below w.heap.size w W) (hgrow:W.grownBy w2 v.ownBlock) (hown:w.ownsRow base 3 1 v ds.length (ds.map (Value.int .i64)))
 (hown':w2.ownsRow base 3 1 v' (ds.length+1) (ds.map (Value.int .i64) ++ [.int .i64 k])) (hg:w.heap[g]?=some (.cells #[.int .i64 n,v] 239)) (hgb:g<base) (_hb:base≤w.heap.size):
 addP base g v.ownBlock n ds (0,k) w (.returned (.int .i64 0)) (w2.setCell ⟨g,1,none⟩ v'):=by
 have hg2:=kH hgrow hB hg hown hgb
 refine ⟨rfl,(Stp2.grown hB hgrow).set _ _,fun _=>⟨v',yS _ hg2,?_⟩⟩
 rw [aZ,cH,bS]
 exact cY hown' (fun k hk _ _=>bG w2 ⟨g,1,none⟩ v' k (by simp;omega))
theorem xDX (ds:List Int) (n:Int) (t:Ty) (g base:Nat) (v:Value) (A:Option Addr) (c:Nat) (w:World) (hg:w.heap[g]?=some (.cells #[.int .i64 n,v] 239)) (hown:w.ownsRow base 3 1 v ds.length (ds.map (Value.int .i64))) (hgb:g<base) (hb:base≤w.heap.size) (hl:ds.length≤65535) (ht:Slc 1 RInt w A c t.flds) (hs:Shape n t) (hk:t.kind≤2):
 Calls Tryz.prog 173 #[.pointer (some ⟨g,0,none⟩),tyAgg t A c] w fun e' w'=>addP base g v.ownBlock n ds (addE ds n t) w e' w':=by
 obtain ⟨hk0,hk4,hpl,hfl,hrg⟩:=hs
 have hf:=hfl (by omega)
 obtain ⟨hmu,hreg,hel⟩:=hpl (by omega)
 have hdep:depF ds 0 t.flds=some 0:=by rw [hf];rfl
 have HF:Hid (addE ds n t=(0,1)):=aF (by
  unfold addE
  rw [aX (by omega),aX (by simp [hmu,hreg,hel,hf]),aX (by omega),aX (by omega),hdep]
  simp only
  rw [aX (by omega),aX (by omega)];rfl)
 rw [HF.out]
 obtain ⟨x0,x1,f0,f1⟩:=eI hg
 obtain ⟨i0,hi,hz0,hz1,hz2⟩:=info_parts eE
 obtain ⟨B,d,rfl,hsl⟩:=dB hown
 have HOWN:=aF hown
 have HG:=aF hg
 have HB:=aF hb
 have hgw:g<w.heap.size:=by omega
 have hgl:=dL hgw
 have hcb:=ht.big
 have hlen:=hsl.le
 have hdb:=hsl.big
 clear hown hg ht hb
 unfold tyAgg
 obtain ⟨k,mu,rg,el,fl⟩:=t
 simp only at *
 subst hmu hreg hel hf
 have HBW:Below w.heap.size w (w.alloc (.cells #[.int .i64 k,.bool false,.int .i64 0,.int .i64 0,.slice A 0 c] 83)):=(aV _ _).alloc (aW _) _
 have HSL:Slc 1 RInt (w.alloc (.cells #[.int .i64 k,.bool false,.int .i64 0,.int .i64 0,.slice A 0 c] 83)) A c ([]:List Int):=xFE hcb
 have HBA:Hid (Below w.heap.size w ((w.alloc (.cells #[.int .i64 k,.bool false,.int .i64 0,.int .i64 0,.slice A 0 c] 83)).alloc (.cells #[.int .i64 1] 3))):=aF (HBW.alloc (by simp) _)
 simp only [bO]
 rcases (show k=0∨k=1∨k=2 by omega) with rfl | rfl | rfl
 all_goals
  go_enter Tryz.func173,Tryz.ntmps173
  go_wp2_with (first
   | (go_at_call 206;refine (fF ds _ g _ _ _ _ _ (cell_keep HBW x1) (hsl.keep RInt.keeps HBW) HSL).mono ?_;rintro e' w' ⟨rfl,hw⟩;obtain rfl:=hw.symm;rw [gW hdep];simp only [depQ])
   | (at_builtin;refine wpList_append_own _ rfl _ _ 51 rfl base 3 i0 (.int .i64 0) 1 8 Tryz.underlying51 hi hz0 hz1 hz2 rfl (by decide) _ _ _ rfl (dX HOWN.out HBA.out) ⟨_,0,none⟩ 1 1 [.int .i64 1] rfl rfl (eM _ _ _ _ (by simp)) (ints_oneCell .i64 [1]) (by unfold maxLen;omega) (by omega) (bX HB.out HBA.out.size) ?_;intro v' w2 hown' hgrow _;obtain ⟨B',d',rfl,_⟩:=lD hown';obtain ⟨y0,y1,f2,f3⟩:=eI (kH hgrow HBA.out HG.out HOWN.out hgb);have HFIN:=aF (lX HBA.out hgrow HOWN.out hown' HG.out hgb HB.out)))
  go_ret
  exact HFIN.out
theorem xAW (ds:List Int) (n:Int) (t:Ty) (g base:Nat) (v:Value) (A:Option Addr) (c:Nat) (w:World) (hg:w.heap[g]?=some (.cells #[.int .i64 n,v] 239)) (hown:w.ownsRow base 3 1 v ds.length (ds.map (Value.int .i64))) (hgb:g<base) (hb:base≤w.heap.size) (_hl:ds.length≤65535) (ht:Slc 1 RInt w A c t.flds) (hk:t.kind=3) (hf:t.flds=[]) (hrg:0≤t.reg∧t.reg<n) (hdep:depF ds 0 [t.elem]=none):
 Calls Tryz.prog 173 #[.pointer (some ⟨g,0,none⟩),tyAgg t A c] w fun e' w'=>addP base g v.ownBlock n ds (addE ds n t) w e' w':=by
 have HF:Hid (addE ds n t=(3,0)):=aF (by
  unfold addE
  rw [aX (by omega),aX (by simp [hk,hf]),aX (by omega),aY hk,hdep]
  )
 rw [HF.out]
 obtain ⟨x0,x1,f0,f1⟩:=eI hg
 obtain ⟨i0,hi,hz0,hz1,hz2⟩:=info_parts eE
 obtain ⟨B,d,rfl,hsl⟩:=dB hown
 have HOWN:=aF hown
 have HG:=aF hg
 have HB:=aF hb
 have hgw:g<w.heap.size:=by omega
 have hgl:=dL hgw
 have hcb:=ht.big
 have hcl:=ht.le
 have HT:=aF ht
 have hlen:=hsl.le
 have hdb:=hsl.big
 clear hown hg ht hb
 unfold tyAgg
 obtain ⟨k,mu,rg,el,fl⟩:=t
 simp only at *
 subst hk hf
 simp only [bO]
 obtain ⟨hr1,hr2⟩:=hrg
 have e1:decide (rg<0)=false:=by simp;omega
 have e2:¬n≤rg:=by omega
 have HBQ:Hid (∀m,Below w.heap.size w ((w.alloc (.cells #[.int .i64 3,.bool mu,.int .i64 rg,.int .i64 el,.slice A 0 c] 83)).drewN m)):=aF (fun m=>bA ((aV _ _).alloc (aW _) _) _)
 have HBD:Hid (∀m,Below w.heap.size w (((w.alloc (.cells #[.int .i64 3,.bool mu,.int .i64 rg,.int .i64 el,.slice A 0 c] 83)).drewN m).alloc (.cells #[.int .i64 el] 3))):=aF (fun m=>((HBQ.out m).alloc (by simp []) _))
 go_enter Tryz.func173,Tryz.ntmps173
 go_wp2_with fail
 go_quiet (fail)
 go_wp2_with (first
  | (go_at_call 206;refine (fF ds [el] g _ _ _ _ _ (cell_keep ((HBQ.out _).alloc (by simp []) _) x1) (hsl.keep RInt.keeps ((HBQ.out _).alloc (by simp []) _)) (jQ _ _ _ _ (by rw [dF];simp))).mono ?_;rintro e' w' ⟨rfl,hw⟩;obtain rfl:=hw.symm;rw [gW hdep];simp only [depQ]))
 all_goals first
  | (go_ret;exact fL (Stp2.of_below (HBD.out _)) (by omega))
  | (exfalso;omega)
theorem xAY (ds:List Int) (n:Int) (t:Ty) (g base:Nat) (v:Value) (A:Option Addr) (c:Nat) (w:World) (hg:w.heap[g]?=some (.cells #[.int .i64 n,v] 239)) (hown:w.ownsRow base 3 1 v ds.length (ds.map (Value.int .i64))) (hgb:g<base) (hb:base≤w.heap.size) (_hl:ds.length≤65535) (ht:Slc 1 RInt w A c t.flds) (hk:t.kind=3) (hf:t.flds=[]) (hrg:0≤t.reg∧t.reg<n) (kd:Int) (hdep:depF ds 0 [t.elem]=some kd) (hkd:32≤kd):
 Calls Tryz.prog 173 #[.pointer (some ⟨g,0,none⟩),tyAgg t A c] w fun e' w'=>addP base g v.ownBlock n ds (addE ds n t) w e' w':=by
 have HF:Hid (addE ds n t=(19,0)):=aF (by
  unfold addE
  rw [aX (by omega),aX (by simp [hk,hf]),aX (by omega),aY hk,hdep]
  simp only
  rw [aX (by omega),aY hkd])
 rw [HF.out]
 obtain ⟨x0,x1,f0,f1⟩:=eI hg
 obtain ⟨i0,hi,hz0,hz1,hz2⟩:=info_parts eE
 obtain ⟨B,d,rfl,hsl⟩:=dB hown
 have HOWN:=aF hown
 have HG:=aF hg
 have HB:=aF hb
 have hgw:g<w.heap.size:=by omega
 have hgl:=dL hgw
 have hcb:=ht.big
 have hcl:=ht.le
 have HT:=aF ht
 have hlen:=hsl.le
 have hdb:=hsl.big
 clear hown hg ht hb
 unfold tyAgg
 obtain ⟨k,mu,rg,el,fl⟩:=t
 simp only at *
 subst hk hf
 simp only [bO]
 obtain ⟨hr1,hr2⟩:=hrg
 have e1:decide (rg<0)=false:=by simp;omega
 have e2:¬n≤rg:=by omega
 have HBQ:Hid (∀m,Below w.heap.size w ((w.alloc (.cells #[.int .i64 3,.bool mu,.int .i64 rg,.int .i64 el,.slice A 0 c] 83)).drewN m)):=aF (fun m=>bA ((aV _ _).alloc (aW _) _) _)
 have HBD:Hid (∀m,Below w.heap.size w (((w.alloc (.cells #[.int .i64 3,.bool mu,.int .i64 rg,.int .i64 el,.slice A 0 c] 83)).drewN m).alloc (.cells #[.int .i64 el] 3))):=aF (fun m=>((HBQ.out m).alloc (by simp []) _))
 go_enter Tryz.func173,Tryz.ntmps173
 go_wp2_with fail
 go_quiet (fail)
 go_wp2_with (first
  | (go_at_call 206;refine (fF ds [el] g _ _ _ _ _ (cell_keep ((HBQ.out _).alloc (by simp []) _) x1) (hsl.keep RInt.keeps ((HBQ.out _).alloc (by simp []) _)) (jQ _ _ _ _ (by rw [dF];simp))).mono ?_;rintro e' w' ⟨rfl,hw⟩;obtain rfl:=hw.symm;rw [gW hdep];simp only [depQ]))
 all_goals first
  | (go_ret;exact fL (Stp2.of_below (HBD.out _)) (by omega))
  | (exfalso;omega)
theorem xAX (ds:List Int) (n:Int) (t:Ty) (g base:Nat) (v:Value) (A:Option Addr) (c:Nat) (w:World) (hg:w.heap[g]?=some (.cells #[.int .i64 n,v] 239)) (hown:w.ownsRow base 3 1 v ds.length (ds.map (Value.int .i64))) (hgb:g<base) (hb:base≤w.heap.size) (hl:ds.length≤65535) (ht:Slc 1 RInt w A c t.flds) (hk:t.kind=3) (hf:t.flds=[]) (hrg:0≤t.reg∧t.reg<n) (kd:Int) (hdep:depF ds 0 [t.elem]=some kd) (hkd0:0≤kd) (hkd:¬32≤kd):
 Calls Tryz.prog 173 #[.pointer (some ⟨g,0,none⟩),tyAgg t A c] w fun e' w'=>addP base g v.ownBlock n ds (addE ds n t) w e' w':=by
 have HF:Hid (addE ds n t=(0,kd+1)):=aF (by
  unfold addE
  rw [aX (by omega),aX (by simp [hk,hf]),aX (by omega),aY hk,hdep]
  simp only
  rw [aX (by omega),aX hkd])
 rw [HF.out]
 obtain ⟨x0,x1,f0,f1⟩:=eI hg
 obtain ⟨i0,hi,hz0,hz1,hz2⟩:=info_parts eE
 obtain ⟨B,d,rfl,hsl⟩:=dB hown
 have HOWN:=aF hown
 have HG:=aF hg
 have HB:=aF hb
 have hgw:g<w.heap.size:=by omega
 have hgl:=dL hgw
 have hcb:=ht.big
 have hcl:=ht.le
 have HT:=aF ht
 have hlen:=hsl.le
 have hdb:=hsl.big
 clear hown hg ht hb
 unfold tyAgg
 obtain ⟨k,mu,rg,el,fl⟩:=t
 simp only at *
 subst hk hf
 simp only [bO]
 obtain ⟨hr1,hr2⟩:=hrg
 have e1:decide (rg<0)=false:=by simp;omega
 have e2:¬n≤rg:=by omega
 have HBQ:Hid (∀m,Below w.heap.size w ((w.alloc (.cells #[.int .i64 3,.bool mu,.int .i64 rg,.int .i64 el,.slice A 0 c] 83)).drewN m)):=aF (fun m=>bA ((aV _ _).alloc (aW _) _) _)
 have e3:¬32≤kd:=by omega
 have HBAm:Hid (∀m,Below w.heap.size w ((((w.alloc (.cells #[.int .i64 3,.bool mu,.int .i64 rg,.int .i64 el,.slice A 0 c] 83)).drewN m).alloc (.cells #[.int .i64 el] 3)).alloc (.cells #[.int .i64 (kd+1)] 3))):=aF (fun m=>((HBQ.out m).alloc (by simp []) _).alloc (by simp [];omega) _)
 go_enter Tryz.func173,Tryz.ntmps173
 go_wp2_with fail
 go_quiet (fail)
 go_wp2_with (first
  | (go_at_call 206;refine (fF ds [el] g _ _ _ _ _ (cell_keep ((HBQ.out _).alloc (by simp []) _) x1) (hsl.keep RInt.keeps ((HBQ.out _).alloc (by simp []) _)) (jQ _ _ _ _ (by rw [dF];simp))).mono ?_;rintro e' w' ⟨rfl,hw⟩;obtain rfl:=hw.symm;rw [gW hdep];simp only [depQ])
  | (at_builtin;refine wpList_append_own _ rfl _ _ 51 rfl base 3 i0 (.int .i64 0) 1 8 Tryz.underlying51 hi hz0 hz1 hz2 rfl (by decide) _ _ _ rfl (dX HOWN.out (HBAm.out _)) ⟨_,0,none⟩ 1 1 [.int .i64 (kd+1)] rfl rfl (eM _ _ _ _ (by simp [])) (ints_oneCell .i64 [kd+1]) (by unfold maxLen;omega) (by omega) (bX HB.out (HBAm.out _).size) ?_;intro v' w2 hown' hgrow _;obtain ⟨B',d',rfl,_⟩:=lD hown';obtain ⟨y0,y1,f2,f3⟩:=eI (kH hgrow (HBAm.out _) HG.out HOWN.out hgb);have HFIN:=aF (lX (HBAm.out _) hgrow HOWN.out hown' HG.out hgb HB.out)))
 all_goals first
  | (exfalso;omega)
  | (go_ret;exact HFIN.out)
theorem xAT (ds:List Int) (n:Int) (t:Ty) (g base:Nat) (v:Value) (A:Option Addr) (c:Nat) (w:World) (hg:w.heap[g]?=some (.cells #[.int .i64 n,v] 239)) (hown:w.ownsRow base 3 1 v ds.length (ds.map (Value.int .i64))) (hgb:g<base) (hb:base≤w.heap.size) (_hl:ds.length≤65535) (ht:Slc 1 RInt w A c t.flds) (hk:t.kind=4) (hmu:t.mu=false) (hreg:t.reg=0) (hel:t.elem=0) (hdep:depF ds 0 t.flds=none):
 Calls Tryz.prog 173 #[.pointer (some ⟨g,0,none⟩),tyAgg t A c] w fun e' w'=>addP base g v.ownBlock n ds (addE ds n t) w e' w':=by
 have HF:Hid (addE ds n t=(3,0)):=aF (by
  unfold addE
  rw [aX (by omega),aX (by simp [hk,hmu,hreg,hel]),aX (by omega),aX (by omega),hdep]
  )
 rw [HF.out]
 obtain ⟨x0,x1,f0,f1⟩:=eI hg
 obtain ⟨i0,hi,hz0,hz1,hz2⟩:=info_parts eE
 obtain ⟨B,d,rfl,hsl⟩:=dB hown
 have HOWN:=aF hown
 have HG:=aF hg
 have HB:=aF hb
 have hgw:g<w.heap.size:=by omega
 have hgl:=dL hgw
 have hcb:=ht.big
 have hcl:=ht.le
 have HT:=aF ht
 have hlen:=hsl.le
 have hdb:=hsl.big
 clear hown hg ht hb
 unfold tyAgg
 obtain ⟨k,mu,rg,el,fl⟩:=t
 simp only at *
 subst hk hmu hreg hel
 have HDEP:=aF (fun W (hb:Below w.heap.size w W)=>fF ds fl g A B c d W (cell_keep hb x1) (hsl.keep RInt.keeps hb) (HT.out.keep RInt.keeps hb))
 rw [gW hdep] at HDEP
 simp only [depQ] at HDEP
 obtain ⟨m,hm⟩:∃m,fl.length=m:=⟨_,rfl⟩
 rw [hm] at HDEP hcl
 rw [hm]
 clear hm HT HF
 have HBW:Below w.heap.size w (w.alloc (.cells #[.int .i64 4,.bool false,.int .i64 0,.int .i64 0,.slice A m c] 83)):=(aV _ _).alloc (aW _) _
 have HBD:=aF (fun (_:Nat)=>HBW)
 go_enter Tryz.func173,Tryz.ntmps173
 go_wp2_with (first
  | (go_at_call 206;refine (HDEP.out _ HBW).mono ?_;rintro e' w' ⟨rfl,hw⟩;obtain rfl:=hw.symm))
 all_goals first
  | (go_ret;exact fL (Stp2.of_below (HBD.out 0)) (by omega))
  | (exfalso;omega)
theorem xDY (ds:List Int) (n:Int) (t:Ty) (g base:Nat) (v:Value) (A:Option Addr) (c:Nat) (w:World) (hg:w.heap[g]?=some (.cells #[.int .i64 n,v] 239)) (hown:w.ownsRow base 3 1 v ds.length (ds.map (Value.int .i64))) (hgb:g<base) (hb:base≤w.heap.size) (_hl:ds.length≤65535) (ht:Slc 1 RInt w A c t.flds) (hk:t.kind=4) (hmu:t.mu=false) (hreg:t.reg=0) (hel:t.elem=0) (kd:Int) (hdep:depF ds 0 t.flds=some kd) (hlim:t.flds.length=0∨65535<t.flds.length):
 Calls Tryz.prog 173 #[.pointer (some ⟨g,0,none⟩),tyAgg t A c] w fun e' w'=>addP base g v.ownBlock n ds (addE ds n t) w e' w':=by
 have HF:Hid (addE ds n t=(15,0)):=aF (by
  unfold addE
  rw [aX (by omega),aX (by simp [hk,hmu,hreg,hel]),aX (by omega),aX (by omega),hdep]
  simp only
  rw [aY ⟨hk,hlim⟩])
 rw [HF.out]
 obtain ⟨x0,x1,f0,f1⟩:=eI hg
 obtain ⟨i0,hi,hz0,hz1,hz2⟩:=info_parts eE
 obtain ⟨B,d,rfl,hsl⟩:=dB hown
 have HOWN:=aF hown
 have HG:=aF hg
 have HB:=aF hb
 have hgw:g<w.heap.size:=by omega
 have hgl:=dL hgw
 have hcb:=ht.big
 have hcl:=ht.le
 have HT:=aF ht
 have hlen:=hsl.le
 have hdb:=hsl.big
 clear hown hg ht hb
 unfold tyAgg
 obtain ⟨k,mu,rg,el,fl⟩:=t
 simp only at *
 subst hk hmu hreg hel
 have HDEP:=aF (fun W (hb:Below w.heap.size w W)=>fF ds fl g A B c d W (cell_keep hb x1) (hsl.keep RInt.keeps hb) (HT.out.keep RInt.keeps hb))
 rw [gW hdep] at HDEP
 simp only [depQ] at HDEP
 obtain ⟨m,hm⟩:∃m,fl.length=m:=⟨_,rfl⟩
 rw [hm] at HDEP hcl hlim
 rw [hm]
 clear hm HT HF
 have HBW:Below w.heap.size w (w.alloc (.cells #[.int .i64 4,.bool false,.int .i64 0,.int .i64 0,.slice A m c] 83)):=(aV _ _).alloc (aW _) _
 have HBD:=aF (fun (_:Nat)=>HBW)
 rcases hlim with rfl | hlim
 all_goals
  go_enter Tryz.func173,Tryz.ntmps173
  go_wp2_with (first
   | (go_at_call 206;refine (HDEP.out _ HBW).mono ?_;rintro e' w' ⟨rfl,hw⟩;obtain rfl:=hw.symm))
  all_goals first
   | (go_ret;exact fL (Stp2.of_below (HBD.out 0)) (by omega))
   | (exfalso;omega)
theorem xAV (ds:List Int) (n:Int) (t:Ty) (g base:Nat) (v:Value) (A:Option Addr) (c:Nat) (w:World) (hg:w.heap[g]?=some (.cells #[.int .i64 n,v] 239)) (hown:w.ownsRow base 3 1 v ds.length (ds.map (Value.int .i64))) (hgb:g<base) (hb:base≤w.heap.size) (_hl:ds.length≤65535) (ht:Slc 1 RInt w A c t.flds) (hk:t.kind=4) (hmu:t.mu=false) (hreg:t.reg=0) (hel:t.elem=0) (kd:Int) (hdep:depF ds 0 t.flds=some kd) (hlim:¬(t.flds.length=0∨65535<t.flds.length)) (hkd:32≤kd):
 Calls Tryz.prog 173 #[.pointer (some ⟨g,0,none⟩),tyAgg t A c] w fun e' w'=>addP base g v.ownBlock n ds (addE ds n t) w e' w':=by
 have HF:Hid (addE ds n t=(19,0)):=aF (by
  unfold addE
  rw [aX (by omega),aX (by simp [hk,hmu,hreg,hel]),aX (by omega),aX (by omega),hdep]
  simp only
  rw [aX (by omega),aY hkd])
 rw [HF.out]
 obtain ⟨x0,x1,f0,f1⟩:=eI hg
 obtain ⟨i0,hi,hz0,hz1,hz2⟩:=info_parts eE
 obtain ⟨B,d,rfl,hsl⟩:=dB hown
 have HOWN:=aF hown
 have HG:=aF hg
 have HB:=aF hb
 have hgw:g<w.heap.size:=by omega
 have hgl:=dL hgw
 have hcb:=ht.big
 have hcl:=ht.le
 have HT:=aF ht
 have hlen:=hsl.le
 have hdb:=hsl.big
 clear hown hg ht hb
 unfold tyAgg
 obtain ⟨k,mu,rg,el,fl⟩:=t
 simp only at *
 subst hk hmu hreg hel
 have HDEP:=aF (fun W (hb:Below w.heap.size w W)=>fF ds fl g A B c d W (cell_keep hb x1) (hsl.keep RInt.keeps hb) (HT.out.keep RInt.keeps hb))
 rw [gW hdep] at HDEP
 simp only [depQ] at HDEP
 obtain ⟨m,hm⟩:∃m,fl.length=m:=⟨_,rfl⟩
 rw [hm] at HDEP hcl hlim
 rw [hm]
 clear hm HT HF
 have hl1:0<m:=by omega
 have hl2:m≤65535:=by omega
 have e4:((m:Int) == 0)=false:=by simp;omega
 have e5:¬(65535:Int)<(m:Int):=by omega
 clear hlim
 have HBW:Below w.heap.size w (w.alloc (.cells #[.int .i64 4,.bool false,.int .i64 0,.int .i64 0,.slice A m c] 83)):=(aV _ _).alloc (aW _) _
 have HBD:=aF (fun (_:Nat)=>HBW)
 go_enter Tryz.func173,Tryz.ntmps173
 go_wp2_with (first
  | (go_at_call 206;refine (HDEP.out _ HBW).mono ?_;rintro e' w' ⟨rfl,hw⟩;obtain rfl:=hw.symm))
 all_goals first
  | (go_ret;exact fL (Stp2.of_below (HBD.out 0)) (by omega))
  | (exfalso;omega)
theorem xAU (ds:List Int) (n:Int) (t:Ty) (g base:Nat) (v:Value) (A:Option Addr) (c:Nat) (w:World) (hg:w.heap[g]?=some (.cells #[.int .i64 n,v] 239)) (hown:w.ownsRow base 3 1 v ds.length (ds.map (Value.int .i64))) (hgb:g<base) (hb:base≤w.heap.size) (hl:ds.length≤65535) (ht:Slc 1 RInt w A c t.flds) (hk:t.kind=4) (hmu:t.mu=false) (hreg:t.reg=0) (hel:t.elem=0) (kd:Int) (hdep:depF ds 0 t.flds=some kd) (hlim:¬(t.flds.length=0∨65535<t.flds.length)) (hkd0:0≤kd) (hkd:¬32≤kd):
 Calls Tryz.prog 173 #[.pointer (some ⟨g,0,none⟩),tyAgg t A c] w fun e' w'=>addP base g v.ownBlock n ds (addE ds n t) w e' w':=by
 have HF:Hid (addE ds n t=(0,kd+1)):=aF (by
  unfold addE
  rw [aX (by omega),aX (by simp [hk,hmu,hreg,hel]),aX (by omega),aX (by omega),hdep]
  simp only
  rw [aX (by omega),aX hkd])
 rw [HF.out]
 obtain ⟨x0,x1,f0,f1⟩:=eI hg
 obtain ⟨i0,hi,hz0,hz1,hz2⟩:=info_parts eE
 obtain ⟨B,d,rfl,hsl⟩:=dB hown
 have HOWN:=aF hown
 have HG:=aF hg
 have HB:=aF hb
 have hgw:g<w.heap.size:=by omega
 have hgl:=dL hgw
 have hcb:=ht.big
 have hcl:=ht.le
 have HT:=aF ht
 have hlen:=hsl.le
 have hdb:=hsl.big
 clear hown hg ht hb
 unfold tyAgg
 obtain ⟨k,mu,rg,el,fl⟩:=t
 simp only at *
 subst hk hmu hreg hel
 have HDEP:=aF (fun W (hb:Below w.heap.size w W)=>fF ds fl g A B c d W (cell_keep hb x1) (hsl.keep RInt.keeps hb) (HT.out.keep RInt.keeps hb))
 rw [gW hdep] at HDEP
 simp only [depQ] at HDEP
 obtain ⟨m,hm⟩:∃m,fl.length=m:=⟨_,rfl⟩
 rw [hm] at HDEP hcl hlim
 rw [hm]
 clear hm HT HF
 have hl1:0<m:=by omega
 have hl2:m≤65535:=by omega
 have e4:((m:Int) == 0)=false:=by simp;omega
 have e5:¬(65535:Int)<(m:Int):=by omega
 clear hlim
 have HBW:Below w.heap.size w (w.alloc (.cells #[.int .i64 4,.bool false,.int .i64 0,.int .i64 0,.slice A m c] 83)):=(aV _ _).alloc (aW _) _
 have HBD:=aF (fun (_:Nat)=>HBW)
 have e3:¬32≤kd:=by omega
 have HBA:Hid (Below w.heap.size w ((w.alloc (.cells #[.int .i64 4,.bool false,.int .i64 0,.int .i64 0,.slice A m c] 83)).alloc (.cells #[.int .i64 (kd+1)] 3))):=aF (HBW.alloc (by simp) _)
 go_enter Tryz.func173,Tryz.ntmps173
 go_wp2_with (first
  | (go_at_call 206;refine (HDEP.out _ HBW).mono ?_;rintro e' w' ⟨rfl,hw⟩;obtain rfl:=hw.symm)
  | (at_builtin;refine wpList_append_own _ rfl _ _ 51 rfl base 3 i0 (.int .i64 0) 1 8 Tryz.underlying51 hi hz0 hz1 hz2 rfl (by decide) _ _ _ rfl (dX HOWN.out HBA.out) ⟨_,0,none⟩ 1 1 [.int .i64 (kd+1)] rfl rfl (eM _ _ _ _ (by simp)) (ints_oneCell .i64 [kd+1]) (by unfold maxLen;omega) (by omega) (bX HB.out HBA.out.size) ?_;intro v' w2 hown' hgrow _;obtain ⟨B',d',rfl,_⟩:=lD hown';obtain ⟨y0,y1,f2,f3⟩:=eI (kH hgrow HBA.out HG.out HOWN.out hgb);have HFIN:=aF (lX HBA.out hgrow HOWN.out hown' HG.out hgb HB.out)))
 all_goals first
  | (exfalso;omega)
  | (go_ret;exact HFIN.out)
end
section
open Go.RowKit Go.Shelf
theorem nI {P:Program} (t e:TypeId) (A:Option Addr) (n c j k:Nat) (ht:P.underlying t=some (.slice e)) (hk:∀w,(sizeOf e).run P w = .ok k w) (hj:j≤n) (hn:n≤c) (w:World):
 (Instr.slice t (.slice A n c) none (some (.int .i64 (j:Int))) none).run P w = .ok (.slice (cutA A c 0 k) j c) w:=by
 have hb:=run_sliceBound (P:=P) (w:=w) .i64 (j:Int) c .sliceAcap (by omega) (by omega)
 simp only [bV] at hb
 simp [Instr.slice,run_underlying ht,Instr.sliceBounds,hb,hk,cutA]
theorem xFJ (A B C:Option Addr) (nt c nl d np e:Nat) (l q:Int) (w:World) (hq:q≠0)
 (hCk:Hid (Calls Tryz.prog 189 #[.agg #[.int .i64 l,.slice C np e]] (w.alloc (.cells #[.int .i64 l,.slice C np e] 55)) fun e' w'=>e' = .returned (.int .i64 q)∧Below (w.alloc (.cells #[.int .i64 l,.slice C np e] 55)).heap.size (w.alloc (.cells #[.int .i64 l,.slice C np e] 55)) w')):
 Calls Tryz.prog 147 #[.slice A nt c,.slice B nl d,.agg #[.int .i64 l,.slice C np e]] w fun e' w'=>e' = .returned (.tuple #[.int .i64 0,.int .i64 q])∧Below w.heap.size w w':=by
 have hB0:=aF (((aV _ _).alloc (aW _) _:Below w.heap.size w (w.alloc (.cells #[.int .i64 l,.slice C np e] 55))))
 have hq2:(q != 0)=true:=by simp [hq]
 clear hq
 go_enter Tryz.func147,Tryz.ntmps147
 go_wp2_with (go_at_call 189;refine hCk.out.mono ?_;rintro e' w1 ⟨rfl,hb1⟩)
 exact bodyPost_ret (by simp [results,Tryz.results147,go_sem] <;> rfl) rfl ⟨rfl,hB0.out.trans (hb1.mono hB0.out.size)⟩
theorem xFI (A B C:Option Addr) (nt c nl d np e m:Nat) (w:World) (hl:nl≤m)
 (hCk:Hid (Calls Tryz.prog 189 #[.agg #[.int .i64 m,.slice C np e]] (w.alloc (.cells #[.int .i64 m,.slice C np e] 55)) fun e' w'=>e' = .returned (.int .i64 0)∧Below (w.alloc (.cells #[.int .i64 m,.slice C np e] 55)).heap.size (w.alloc (.cells #[.int .i64 m,.slice C np e] 55)) w')):
 Calls Tryz.prog 147 #[.slice A nt c,.slice B nl d,.agg #[.int .i64 m,.slice C np e]] w fun e' w'=>e' = .returned (.tuple #[.int .i64 0,.int .i64 3])∧Below w.heap.size w w':=by
 have hB0:=aF (((aV _ _).alloc (aW _) _:Below w.heap.size w (w.alloc (.cells #[.int .i64 m,.slice C np e] 55))))
 have z1:(w.alloc (.cells #[.int .i64 m,.slice C np e] 55)).cell? ⟨w.heap.size,0,none⟩=some (.int .i64 m):=by go_simp
 have hq2:decide ((nl:Int)≤(m:Int))=true:=by simp;omega
 go_enter Tryz.func147,Tryz.ntmps147
 go_wp2_with (go_at_call 189;refine hCk.out.mono ?_;rintro e' w1 ⟨rfl,hb1⟩;have z1':=cell_keep hb1 z1)
 exact bodyPost_ret (by simp [results,Tryz.results147,go_sem] <;> rfl) rfl ⟨rfl,hB0.out.trans (hb1.mono hB0.out.size)⟩
theorem xFH (A C:Option Addr) (nt c nl d e m b off:Nat) (x:Lc) (w:World) (hl:m<nl) (hr2:w.cell? ⟨b,off+m * 2+1,none⟩=some (.int .i64 x.type))
 (hCk:Hid (Calls Tryz.prog 189 #[.agg #[.int .i64 m,.slice C 0 e]] (w.alloc (.cells #[.int .i64 m,.slice C 0 e] 55)) fun e' w'=>e' = .returned (.int .i64 0)∧Below (w.alloc (.cells #[.int .i64 m,.slice C 0 e] 55)).heap.size (w.alloc (.cells #[.int .i64 m,.slice C 0 e] 55)) w')):
 Calls Tryz.prog 147 #[.slice A nt c,.slice (some ⟨b,off,none⟩) nl d,.agg #[.int .i64 m,.slice C 0 e]] w fun e' w'=>e' = .returned (.tuple #[.int .i64 x.type,.int .i64 0])∧Below w.heap.size w w':=by
 have hB0:=aF (((aV _ _).alloc (aW _) _:Below w.heap.size w (w.alloc (.cells #[.int .i64 m,.slice C 0 e] 55))))
 have z1:(w.alloc (.cells #[.int .i64 m,.slice C 0 e] 55)).cell? ⟨w.heap.size,0,none⟩=some (.int .i64 m):=by go_simp
 have z2:(w.alloc (.cells #[.int .i64 m,.slice C 0 e] 55)).cell? ⟨w.heap.size,1,none⟩=some (.slice C 0 e):=by go_simp
 have hq2:decide ((nl:Int)≤(m:Int))=false:=by simp;omega
 go_enter Tryz.func147,Tryz.ntmps147
 go_wp2_with (go_at_call 189;refine hCk.out.mono ?_;rintro e' w1 ⟨rfl,hb1⟩;have hr2':=cell_keep (hB0.out.trans (hb1.mono hB0.out.size)) hr2;have z1':=cell_keep hb1 z1;have z2':=cell_keep hb1 z2)
 exact bodyPost_ret (by simp [results,Tryz.results147,go_sem] <;> rfl) rfl ⟨rfl,hB0.out.trans (hb1.mono hB0.out.size)⟩
theorem xGW {t:Ty} {x:Pj} {f:Nat} (hf:x.field=f) (h:f<t.flds.length):prT t x=if x.kind=0∧t.kind=3 then (t.elem,0) else if x.kind=1∧t.kind=4 then (t.flds[f],0) else (0,22):=by
 unfold prT
 rw [hf,aY (show (f:Int)<t.flds.length by omega),bV,List.getD_eq_getElem?_getD,bB h]
 rfl
theorem xFQ {t:Ty} {x:Pj} {f:Nat} (hf:x.field=f) (h:¬f<t.flds.length):prT t x=if x.kind=0∧t.kind=3 then (t.elem,0) else if x.kind=1∧t.kind=4 then (0,3) else (0,22):=by
 unfold prT
 rw [hf,aX (show ¬(f:Int)<t.flds.length by omega)]
theorem xBZ (A B C:Option Addr) (nt c nl d e m k:Nat) (i q:Int) (R:Int × Int) (w:World) (hl:m<nl) (hk:k+1≤32) (hke:k+1≤e) (he:e≤9223372036854775807)
 (hCk:Hid (Calls Tryz.prog 189 #[.agg #[.int .i64 m,.slice C (k+1) e]] (w.alloc (.cells #[.int .i64 m,.slice C (k+1) e] 55)) fun e' w'=>e' = .returned (.int .i64 0)∧Below (w.alloc (.cells #[.int .i64 m,.slice C (k+1) e] 55)).heap.size (w.alloc (.cells #[.int .i64 m,.slice C (k+1) e] 55)) w'))
 (hRec:Hid (∀W,Below w.heap.size w W→Calls Tryz.prog 147 #[.slice A nt c,.slice B nl d,.agg #[.int .i64 m,.slice C k e]] W fun e' w'=>e' = .returned (.tuple #[.int .i64 i,.int .i64 q])∧Below W.heap.size W w'))
 (hbad:q≠0→R=(0,q))
 (hgood:q=0→∃(j bT oT bC oC:Nat) (t:Ty) (x:Pj),i=(j:Int)∧j<nt∧A=some ⟨bT,oT,none⟩∧bT<w.heap.size∧RTy w w.heap.size bT (oT+j * 5) t∧C=some ⟨bC,oC,none⟩∧bC<w.heap.size∧RPj w w.heap.size bC (oC+k * 2) x∧R=prT t x∧0≤x.field):
 Calls Tryz.prog 147 #[.slice A nt c,.slice B nl d,.agg #[.int .i64 m,.slice C (k+1) e]] w fun e' w'=>e' = .returned (.tuple #[.int .i64 R.1,.int .i64 R.2])∧Below w.heap.size w w':=by
 have hB0:=aF (((aV _ _).alloc (aW _) _:Below w.heap.size w (w.alloc (.cells #[.int .i64 m,.slice C (k+1) e] 55))))
 have z1:(w.alloc (.cells #[.int .i64 m,.slice C (k+1) e] 55)).cell? ⟨w.heap.size,0,none⟩=some (.int .i64 m):=by go_simp
 have z2:(w.alloc (.cells #[.int .i64 m,.slice C (k+1) e] 55)).cell? ⟨w.heap.size,1,none⟩=some (.slice C (k+1) e):=by go_simp
 have hq2:decide ((nl:Int)≤(m:Int))=false:=by simp;omega
 go_enter Tryz.func147,Tryz.ntmps147
 go_wp2_with (go_at_call 189;refine hCk.out.mono ?_;rintro e' w1 ⟨rfl,hb1⟩;have z1':=cell_keep hb1 z1;have z2':=cell_keep hb1 z2)
 have hwk:IntKind.i64.wrap (k:Int)=(k:Int):=by rw [IntKind.wrap_i64];omega
 have hB1:Below w.heap.size w w1:=hB0.out.trans (hb1.mono hB0.out.size)
 clear z1 z2 hb1 hB0 hCk
 refine gD (S:=fun X=>X.cell? ⟨w.heap.size,0,none⟩=some (.int .i64 m)∧X.cell? ⟨w.heap.size,1,none⟩=some (.slice C (k+1) e)) (t:=16) (by kernel_rfl) ?_
 have hS:w1.drew.cell? ⟨w.heap.size,0,none⟩=some (.int .i64 m)∧w1.drew.cell? ⟨w.heap.size,1,none⟩=some (.slice C (k+1) e):=⟨z1',z2'⟩
 refine cX (i:=0) (v:=?tv0) rfl (by kernel_rfl) (by kernel_rfl) (by kernel_rfl) (by kernel_rfl) (fun _ _ _ h=>h) (Or.inl ⟨by rfl,?ty0⟩) hS ?tr0
 case ty0=>
  rintro X ⟨s1,s2⟩
  simp only [aK]
  go_simp
  rfl
 simp only [aK,Act.put,aJ]
 refine cX (i:=1) (v:=?tv1) rfl (by kernel_rfl) (by kernel_rfl) (by kernel_rfl) (by kernel_rfl) (fun _ _ _ h=>h) (Or.inl ⟨by rfl,?ty1⟩) hS ?tr1
 case ty1=>
  rintro X ⟨s1,s2⟩
  simp only [aK]
  go_simp
  rfl
 simp only [aK,Act.put,aJ]
 refine cX (i:=2) (v:=?tv2) rfl (by kernel_rfl) (by kernel_rfl) (by kernel_rfl) (by kernel_rfl) (fun _ _ _ h=>h) (Or.inl ⟨by rfl,?ty2⟩) hS ?tr2
 case ty2=>
  rintro X ⟨s1,s2⟩
  simp only [aK]
  go_simp
  rfl
 simp only [aK,Act.put,aJ]
 refine cX (i:=3) (v:=?tv3) rfl (by kernel_rfl) (by kernel_rfl) (by kernel_rfl) (by kernel_rfl) (fun _ _ _ h=>h) (Or.inl ⟨by rfl,?ty3⟩) hS ?tr3
 case ty3=>
  rintro X ⟨s1,s2⟩
  simp only [aK]
  go_simp
  rfl
 simp only [aK,Act.put,aJ]
 refine cX (i:=4) (v:=?tv4) rfl (by kernel_rfl) (by kernel_rfl) (by kernel_rfl) (by kernel_rfl) (fun _ _ _ h=>h) (Or.inl ⟨by rfl,?ty4⟩) hS ?tr4
 case ty4=>
  rintro X ⟨s1,s2⟩
  simp only [aK]
  go_simp
  rfl
 simp only [aK,Act.put,aJ]
 refine cX (i:=5) (v:=?tv5) rfl (by kernel_rfl) (by kernel_rfl) (by kernel_rfl) (by kernel_rfl) (fun _ _ _ h=>h) (Or.inl ⟨by rfl,?ty5⟩) hS ?tr5
 case ty5=>
  rintro X ⟨s1,s2⟩
  simp only [aK]
  go_simp
  rfl
 simp only [aK,Act.put,aJ]
 refine cX (i:=6) (v:=?tv6) rfl (by kernel_rfl) (by kernel_rfl) (by kernel_rfl) (by kernel_rfl) (fun _ _ _ h=>h) (Or.inl ⟨by rfl,?ty6⟩) hS ?tr6
 case ty6=>
  rintro X ⟨s1,s2⟩
  simp only [aK]
  go_simp
  rfl
 simp only [aK,Act.put,aJ]
 refine cX (i:=7) (v:= .int .i64 (k:Int)) rfl (by kernel_rfl) (by kernel_rfl) (by kernel_rfl) (by kernel_rfl) (fun _ _ _ h=>h) (Or.inl ⟨by rfl,?ty7⟩) hS ?tr7
 case ty7=>
  rintro X ⟨s1,s2⟩
  simp only [aK]
  go_simp
  try (first | rfl | (rw [hwk]) | simp [hwk])
 simp only [aK,Act.put,aJ]
 refine cX (i:=8) (v:= .slice C k e) rfl (by kernel_rfl) (by kernel_rfl) (by kernel_rfl) (by kernel_rfl) (fun _ _ _ h=>h) (Or.inl ⟨by rfl,?ty8⟩) hS ?tr8
 case ty8=>
  rintro X ⟨s1,s2⟩
  simp only [aK]
  go_simp
  (try simp only [hwk]);first | rfl | (intro h;omega) | (rw [aY (by omega)];simp)
 simp only [aK,Act.put,aJ]
 refine cX (i:=9) (v:=?tv9) rfl (by kernel_rfl) (by kernel_rfl) (by kernel_rfl) (by kernel_rfl) (fun _ _ _ h=>h) (Or.inl ⟨by rfl,?ty9⟩) hS ?tr9
 case ty9=>
  rintro X ⟨s1,s2⟩
  simp only [aK]
  go_simp
  rfl
 simp only [aK,Act.put,aJ]
 refine eB (i:=10) (by kernel_rfl) rfl (fun K1 hK1=>?_)
 simp only [aK,Act.put,aJ]
 rw [aY (by rfl)]
 go_simp
 refine (hRec.out _ hB1.drew).mono ?_
 rintro e' w2 ⟨rfl,hb2⟩
 have hS2:w2.cell? ⟨w.heap.size,0,none⟩=some (.int .i64 m)∧w2.cell? ⟨w.heap.size,1,none⟩=some (.slice C (k+1) e):=⟨cell_keep hb2 hS.1,cell_keep hb2 hS.2⟩
 refine hK1.out _ _ (fun _=>hS2) ?_
 refine cX (i:=11) (v:=?tv11) rfl (by kernel_rfl) (by kernel_rfl) (by kernel_rfl) (by kernel_rfl) (fun _ _ _ h=>h) (Or.inl ⟨by rfl,?ty11⟩) hS2 ?tr11
 case ty11=>
  rintro X ⟨s1,s2⟩
  simp only [aK]
  go_simp
  rfl
 simp only [aK,Act.put,aJ]
 refine cX (i:=12) (v:=?tv12) rfl (by kernel_rfl) (by kernel_rfl) (by kernel_rfl) (by kernel_rfl) (fun _ _ _ h=>h) (Or.inl ⟨by rfl,?ty12⟩) hS2 ?tr12
 case ty12=>
  rintro X ⟨s1,s2⟩
  simp only [aK]
  go_simp
  rfl
 simp only [aK,Act.put,aJ]
 refine cX (i:=13) (v:=?tv13) rfl (by kernel_rfl) (by kernel_rfl) (by kernel_rfl) (by kernel_rfl) (fun _ _ _ h=>h) (Or.inl ⟨by rfl,?ty13⟩) hS2 ?tr13
 case ty13=>
  rintro X ⟨s1,s2⟩
  simp only [aK]
  go_simp
  rfl
 simp only [aK,Act.put,aJ]
 refine cX (i:=14) (v:=?tv14) rfl (by kernel_rfl) (by kernel_rfl) (by kernel_rfl) (by kernel_rfl) (fun _ _ _ h=>h) (Or.inl ⟨by rfl,?ty14⟩) hS2 ?tr14
 case ty14=>
  rintro X ⟨s1,s2⟩
  simp only [aK]
  go_simp
  rfl
 simp only [aK,Act.put,aJ]
 refine cX (i:=15) (v:=?tv15) rfl (by kernel_rfl) (by kernel_rfl) (by kernel_rfl) (by kernel_rfl) (fun _ _ _ h=>h) (Or.inl ⟨by rfl,?ty15⟩) hS2 ?tr15
 case ty15=>
  rintro X ⟨s1,s2⟩
  simp only [aK]
  go_simp
  rfl
 simp only [aK,Act.put,aJ]
 refine fP (by kernel_rfl) ?_ _
 have hB2:Below w.heap.size w w2:=hB1.drew.trans (hb2.mono hB1.drew.size)
 obtain ⟨y1,y2⟩:=hS2
 clear hRec z1' z2' hS hb2 hK1
 by_cases hq0:q=0
 ·subst hq0
  clear hbad
  obtain ⟨j,bT,oT,bC,oC,t,x,rfl,hj,rfl,hbT,hrT,rfl,hbC,hrC,hR,hxf⟩:=hgood rfl
  obtain ⟨f,hf⟩:=bF hxf
  obtain ⟨r1,r2,r3,r4,A2,c2,r5,r6,r7,r8⟩:=RTy.keeps _ _ _ w.heap.size _ _ _ (aW _) hbT hB2 hrT
  obtain ⟨g1,g2⟩:=RPj.keeps _ _ _ w.heap.size _ _ _ (aW _) hbC hB2 hrC
  rw [hf] at g2
  have hs2:=hB2.size
  have hlw:=cD _ _ y1
  have hlt1:=dL (show w.heap.size<w2.heap.size from hlw)
  have hlt2':bT<w2.heap.size:=by omega
  have hlt3':bC<w2.heap.size:=by omega
  have hlt2:=dL hlt2'
  have hlt3:=dL hlt3'
  clear hrT hrC hgood hxf
  by_cases hff:f<t.flds.length
  ·obtain ⟨b3,o3,rfl,hb3,r9⟩:=r8.at_ hff
   have hP:=aF (hR.trans (xGW hf hff))
   have hd:¬((f:Int) ≥ t.flds.length):=by omega
   unfold RInt at r9
   generalize t.flds[f]=y at *
   have hlt4':b3<w2.heap.size:=by omega
   have hlt4:=dL hlt4'
   rw [Nat.mul_one] at r9
   clear hR hf r8
   go_wp2
   all_goals
    refine bodyPost_ret (by simp [results,Tryz.results147,go_sem] <;> rfl) rfl ⟨?_,?_⟩
   all_goals
    first
    | (rw [hP.out];grind)
    | exact aG
  ·have hP:=aF (hR.trans (xFQ hf hff))
   have hd:(f:Int) ≥ t.flds.length:=by omega
   clear hR hf r8
   go_wp2
   all_goals
    refine bodyPost_ret (by simp [results,Tryz.results147,go_sem] <;> rfl) rfl ⟨?_,?_⟩
   all_goals
    first
    | (rw [hP.out];grind)
    | exact aG
 ·have hR:=aF (hbad hq0)
  have hq:(q != 0)=true:=by simp [hq0]
  clear hbad hgood hq0
  go_wp2
  exact bodyPost_ret (by simp [results,Tryz.results147,go_sem] <;> rfl) rfl ⟨by rw [hR.out],hB2⟩
theorem kT (ts:List Ty) (ls:List Lc) (l:Int):∀(n:Nat) (ps:List Pj),ps.length=n→∀(A B C:Option Addr) (c d e:Nat) (w:World),Slc 5 RTy w A c ts→Slc 2 RLc w B d ls→Slc 2 RPj w C e ps→Okay ts ls→
 Calls Tryz.prog 147 #[.slice A ts.length c,.slice B ls.length d,.agg #[.int .i64 l,.slice C ps.length e]] w fun e' w'=>e' = .returned (.tuple #[.int .i64 (tyOf ts ls l ps).1,.int .i64 (tyOf ts ls l ps).2])∧Below w.heap.size w w'
 | n,ps,hn,A,B,C,c,d,e,w,hts,hls,hps,hok=>by
   have hCk:=aF (vN l C e ps (w.alloc (.cells #[.int .i64 l,.slice C ps.length e] 55)) (hps.keep RPj.keeps ((aV _ _).alloc (aW _) _)))
   by_cases hk:chk l ps=0
   ·obtain ⟨hl0,hp32⟩:=lS hk
    rw [hk] at hCk
    obtain ⟨m,rfl⟩:=bF hl0
    by_cases hl:m<ls.length
    ·match n,hn with
     | 0,hn=>
       have hps0:ps=[]:=bU hn
       subst hps0
       obtain ⟨b,off,rfl,hb,hr⟩:=hls.sl.at_ hl
       rw [xBC hk hl]
       exact xFH A C ts.length c ls.length d e m b off ls[m] w hl hr.2 hCk
     | k+1,hn=>
       obtain ⟨qs,x,rfl⟩:∃qs x,ps=qs ++ [x]:=⟨ps.dropLast,ps.getLast (by intro h;simp [h] at hn),(List.dropLast_concat_getLast _).symm⟩
       have hqs:qs.length=k:=by simpa using hn
       have hlen:(qs ++ [x]).length=k+1:=hn
       rw [pI hk (by omega)]
       have hle:=hps.le
       have hbig:=hps.big
       rw [hlen] at hCk hle hp32 ⊢
       have hqq:Slc 2 RPj w C e qs:=by
        have h:=hps.takeN k
        rwa [List.take_left' hqs] at h
       obtain ⟨hx0,hx1,hx2⟩:=uM hk
       refine xBZ A B C ts.length c ls.length d e m k (tyOf ts ls m qs).1 (tyOf ts ls m qs).2 _ w hl hp32 hle hbig hCk (aF (fun W hW=>?_)) (fun hq=>?_) (fun hq=>?_)
       ·have h:=kT ts ls m k qs hqs A B C c d e W (hts.keep RTy.keeps hW) (hls.keep RLc.keeps hW) (hqq.keep RPj.keeps hW) hok
        rwa [hqs] at h
       ·have h:=xBD hq
        unfold stepE
        rw [aY hq]
        exact Prod.ext h rfl
       ·obtain ⟨h1,h2⟩:=gO hok hq
        obtain ⟨j,hj⟩:=bF h1
        have hj2:j<ts.length:=by omega
        obtain ⟨bT,oT,hA,hbT,hrT⟩:=hts.sl.at_ hj2
        obtain ⟨bC,oC,hC,hbC,hrC⟩:=hps.sl.at_ (show k<(qs ++ [x]).length by omega)
        have hxk:(qs ++ [x])[k]'(by omega)=x:=by
         subst hqs
         simp
        rw [hxk] at hrC
        refine ⟨j,bT,oT,bC,oC,ts[j],x,hj,hj2,hA,hbT,hrT,hC,hbC,hrC,?_,hx2⟩
        unfold stepE
        rw [aX (by omega),hj,bV,bB hj2]
    ·rw [tA hk (by omega)]
     exact xFI A B C ts.length c ls.length d ps.length e m w (by omega) hCk
   ·rw [tB hk]
    exact xFJ A B C ts.length c ls.length d ps.length e l _ w hk hCk
end
section
open Go Go.RowKit
def subS (pairs:List (Int × Int)) (n:Int) (S:Int→Int→Bool) (a b:Ty):Bool:=
 decide (a.kind=b.kind) && decide (a.mu=b.mu) && decide (a.flds.length=b.flds.length) && (a.flds.zip b.flds).all (fun p=>S p.1 p.2) &&
  (decide (a.kind≠3) || (outB pairs n a.reg b.reg && S a.elem b.elem && (!a.mu || S b.elem a.elem)))
theorem iW (pairs:List (Int × Int)) (n:Int) (ts:List Ty) (f:Nat) (s t:Int):subF pairs n ts (f+1) s t=if s<0∨t<0 then false else match ts[s.toNat]?,ts[t.toNat]? with
 | some a,some b=>subS pairs n (subF pairs n ts f) a b
 | _,_=>false:=rfl
theorem mE {pairs:List (Int × Int)} {n:Int} {S S':Int→Int→Bool} {a b:Ty} (h:∀x∈a.flds,∀y∈b.flds,S x y=S' x y) (h3:a.kind=3→b.kind=3→S a.elem b.elem=S' a.elem b.elem∧S b.elem a.elem=S' b.elem a.elem):
 subS pairs n S a b=subS pairs n S' a b:=by
 unfold subS
 have e1:(a.flds.zip b.flds).all (fun p=>S p.1 p.2)=(a.flds.zip b.flds).all (fun p=>S' p.1 p.2):=by
  rw [bQ,List.all_eq_true,List.all_eq_true]
  constructor
  ·intro g p hp
   have:=List.of_mem_zip hp
   rw [← h p.1 this.1 p.2 this.2];exact g p hp
  ·intro g p hp
   have:=List.of_mem_zip hp
   rw [h p.1 this.1 p.2 this.2];exact g p hp
 rw [e1]
 by_cases hk:a.kind=b.kind
 ·by_cases ha:a.kind=3
  ·obtain ⟨h4,h5⟩:=h3 ha (hk ▸ ha)
   rw [h4,h5]
  ·simp [ha]
 ·simp [hk]
theorem eV {pairs:List (Int × Int)} {n:Int} {ts:List Ty} (hok:TyOk ts):∀(f g:Nat) (s t:Int),s.toNat+t.toNat<f→s.toNat+t.toNat<g→subF pairs n ts f s t=subF pairs n ts g s t
 | 0,_,_,_,h,_=>absurd h (by omega)
 | _,0,_,_,_,h=>absurd h (by omega)
 | f+1,g+1,s,t,h,h2=>by
   rw [iW,iW]
   by_cases hi:s<0∨t<0
   ·rw [aY hi,aY hi]
   rw [aX hi,aX hi]
   by_cases hs:s.toNat<ts.length
   ·by_cases ht:t.toNat<ts.length
    ·rw [bB hs,bB ht]
     simp only
     refine mE ?_ ?_
     ·intro x hx y hy
      have h5:=(hok _ hs).2 x hx
      have h6:=(hok _ ht).2 y hy
      exact eV hok f g x y (by omega) (by omega)
     ·intro ha hb
      obtain ⟨a1,a2,-⟩:=(hok _ hs).1 ha
      obtain ⟨b1,b2,-⟩:=(hok _ ht).1 hb
      exact ⟨eV hok f g _ _ (by omega) (by omega),eV hok f g _ _ (by omega) (by omega)⟩
    ·rw [cE (by omega:ts.length≤t.toNat)]
     cases ts[s.toNat]? <;> rfl
   ·rw [cE (by omega:ts.length≤s.toNat)]
theorem jP {b:Bdy} (hok:TyOk b.types) {s t:Nat} (hs:s<b.types.length) (ht:t<b.types.length):
 subB b s t=subS b.outl b.regions.length (subB b) b.types[s] b.types[t]:=by
 have e:subB b s t=subF b.outl b.regions.length b.types (s+t+1) s t:=rfl
 rw [e,iW,aX (by omega)]
 simp only [bV]
 rw [bB hs,bB ht]
 simp only
 refine mE ?_ ?_
 ·intro x hx y hy
  have h5:=(hok _ hs).2 x hx
  have h6:=(hok _ ht).2 y hy
  exact eV hok _ _ x y (by omega) (by omega)
 ·intro ha hb
  obtain ⟨a1,a2,-⟩:=(hok _ hs).1 ha
  obtain ⟨b1,b2,-⟩:=(hok _ ht).1 hb
  exact ⟨eV hok _ _ _ _ (by omega) (by omega),eV hok _ _ _ _ (by omega) (by omega)⟩
theorem tG {b:Bdy} {s t:Int} (h:s<0∨t<0∨(b.types.length:Int)≤s∨(b.types.length:Int)≤t):subB b s t=false:=by
 have e:subB b s t=subF b.outl b.regions.length b.types (s.toNat+t.toNat+1) s t:=rfl
 rw [e,iW]
 by_cases hi:s<0∨t<0
 ·rw [aY hi]
 rw [aX hi]
 by_cases hs:s.toNat<b.types.length
 ·rw [cE (by omega:b.types.length≤t.toNat)]
  cases b.types[s.toNat]? <;> rfl
 ·rw [cE (by omega:b.types.length≤s.toNat)]
def CovT (ts:List Ty) (sl:List Int) (i:Int):Prop:=∃(h:i.toNat<ts.length),0≤i∧((ts[i.toNat].kind=3∧ts[i.toNat].mu=false)∨(ts[i.toNat].kind≠3∧i∈sl))
theorem CovT.mono {ts:List Ty} {sl sl':List Int} {i:Int} (h:CovT ts sl i) (hs:∀x∈sl,x∈sl'):CovT ts sl' i:=by
 obtain ⟨h1,h2,h3⟩:=h
 exact ⟨h1,h2,h3.imp id (fun h=>⟨h.1,hs _ h.2⟩)⟩
theorem uK {ts:List Ty} (hok:TyOk ts) {sl:List Int} (hc:∀x∈sl,∀(h:x.toNat<ts.length),0≤x→ts[x.toNat].kind≠3→∀f∈ts[x.toNat].flds,CovT ts sl f):∀(m:Nat) (i:Int),i.toNat<m→CovT ts sl i→copB ts i=true
 | 0,_,h,_=>absurd h (by omega)
 | m+1,i,hm,⟨h1,h2,h3⟩=>by
   obtain ⟨k,rfl⟩:=bF h2
   simp only [bV] at h1 h3 hm
   rw [sS hok h1]
   rcases h3 with ⟨h3,h4⟩ | ⟨h3,h4⟩
   ·rw [aY h3,h4];rfl
   ·rw [aX h3,List.all_eq_true]
    intro f hf
    have hfr:=(hok k h1).2 f hf
    exact uK hok hc m f (by omega) (hc _ h4 (by simpa using h1) h2 (by simpa using h3) f (by simpa using hf))
end
end Go.Proofs.YtbnljlpefpllcaaGreatDoor
