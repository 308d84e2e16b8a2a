/-
  Parts of the proof: V5 V6 V7 V8 V9 V10 V15 V16 H3 H4.
-/
import Derived.Test.YtkaigkfbkpinlaaGreatDoorFP0
import Derived.Test.YtkaigkfbkpinlaaGreatDoorFP3
import Derived.Test.YtkaigkfbkpinlaaGreatDoorFP2
namespace Go.Proofs.YtkaigkfbkpinlaaGreatDoor
set_option maxRecDepth 100000
set_option maxHeartbeats 16000000
section
open Go Go.RowKit
theorem wQ (x t:Ty) (A:Option Addr) (c h:Nat) (w:World) (hx:Slc 1 RInt w A c x.flds) (hh:h<w.heap.size) (ht:RTy w w.heap.size h 0 t):
 Calls Tryz.prog 178 #[tyAgg x A c,.pointer (some ⟨h,0,none⟩)] w fun e' w'=>e' = .returned (.bool (decide (x=t)))/\Below w.heap.size w w':=by
 obtain ⟨r1,r2,r3,r4,A2,c2,r5,r6,r7,r8⟩:=ht;have HE:=aH (fun W hb=>xBZ x t A A2 c c2 W (hx.keep RInt.keeps hb) ((⟨r8,r6,r7⟩:Slc 1 RInt w A2 c2 t.flds).keep RInt.keeps hb));generalize decide (x=t)=q at HE ⊢;unfold tyAgg at HE ⊢;have hls:=eB hh;clear hx r8;go_enter Tryz.func178,Tryz.ntmps178
 go_wp2_with (go_at_call 179;refine (HE.out _ ((aZ _ _).alloc (bA _) _)).mono ?_;rintro e' w1 ⟨rfl,hb1⟩)
 go_ret;exact ⟨rfl,((aZ _ _).alloc (bA _) _).trans (hb1.mono (by simp))⟩
def eqT (t x:Ty):Bool:=decide (x=t)
theorem wP (ts:List Ty) (t:Ty) (A:Option Addr) (c h:Nat) (w:World) (hs:Slc 5 RTy w A c ts) (hh:h<w.heap.size) (ht:RTy w w.heap.size h 0 t):
 Calls Tryz.prog 177 #[.slice A ts.length c,.func (.func 178) #[] #[.pointer (some ⟨h,0,none⟩)]] w fun e' w'=>e' = .returned (.int .i64 (idxF (eqT t) 0 ts))/\Below w.heap.size w w':=by
 have hle:=hs.le;have hbig:=hs.big;obtain ⟨R,hR⟩:∃R,idxF (eqT t) 0 ts=R:=⟨_,rfl⟩;rw [hR];have HR:=aH hR;have HS:=aH hs;have HT:=aH ht;clear hR hs ht;go_enter Tryz.func177,Tryz.ntmps177
 go_wp2_with fail
 go_loopw [8] (fun v wr=>∃k:Nat,k<=ts.length/\v = .int .i64 k/\Hid (Below w.heap.size w wr)/\Hid (R=idxF (eqT t) k (ts.drop k))) (fun v _=>ts.length - (intOf v).toNat)
 case atStart=>exact ⟨0,by omega,rfl,aH (aZ _ _),aH HR.out.symm⟩
 case round=>
  obtain ⟨k,hk,rfl,hB,hr⟩:=hrel;by_cases hlt:k<ts.length
  ·have hd:=dA hlt;obtain ⟨b,o,rfl,hb,hx⟩:=(HS.out.keep RTy.keeps hB.out).sl.at_ hlt;obtain ⟨x,hxx⟩:∃x,ts[k]=x:=⟨_,rfl⟩;rw [hxx] at hd hx;obtain ⟨r1,r2,r3,r4,A2,c2,r5,r6,r7,r8⟩:=hx;have HC:=aH (wQ x t A2 c2 h wr ⟨r8,r6,r7⟩ (bP hh hB.out.size) (RTy.keeps w wr _ _ h 0 t hB.out.size hh hB.out HT.out));change Hid (Calls Tryz.prog 178 _ _ fun e' w'=>e' = .returned (.bool (eqT t x))/\_) at HC;have hsz:=hB.out.size;have HN:Hid (R=if eqT t x=true then (k:Int) else idxF (eqT t) (k+1) (ts.drop (k+1))):=aH (by rw [hr.out,hd];rfl);generalize eqT t x=q at HC HN;clear hd hr hxx r8;unfold tyAgg at HC;cases q
   ·have HF:Hid (R=idxF (eqT t) (k+1) (ts.drop (k+1))):=HN;clear HN;go_wp2_with (go_at_call 178;refine HC.out.mono ?_;rintro e' w1 ⟨rfl,hb1⟩)
    go_roundw
    case rel=>exact ⟨k+1,by omega,by go_num,aH (hB.out.trans (hb1.mono hsz)),HF⟩
    case measure=>simp [intOf];omega
   ·have HF:Hid (R=k):=HN;clear HN;go_wp2_with (go_at_call 178;refine HC.out.mono ?_;rintro e' w1 ⟨rfl,hb1⟩)
    go_ret;exact ⟨by rw [HF.out];rfl,hB.out.trans (hb1.mono hsz)⟩
  ·have HN:Hid (R = -1):=aH (by rw [hr.out,bG (by omega)];rfl);clear hr;go_wp2_with fail
   go_ret;exact ⟨by rw [HN.out];rfl,hB.out⟩
theorem xDM (t:Ty) (ts:List Ty):ts.any (eqT t)=decide (t∈ts):=by
 rw [bS];simp only [List.any_eq_true,eqT,decide_eq_true_eq];exact ⟨fun ⟨x,h,e⟩=>e ▸ h,fun h=>⟨t,h,rfl⟩⟩
def findP (b:Bool) (e':Ending):Prop:=∃i:Int,e' = .returned (.tuple #[.int .i64 i,.bool b])
theorem wO (ts:List Ty) (t:Ty) (A B:Option Addr) (c d:Nat) (w:World) (hs:Slc 5 RTy w A c ts) (ht:Slc 1 RInt w B d t.flds):
 Calls Tryz.prog 149 #[.slice A ts.length c,tyAgg t B d] w fun e' w'=>findP (decide (t∈ts)) e'/\Below w.heap.size w w':=by
 have hb0:Below w.heap.size w (w.alloc (.cells #[.int .i64 t.kind,.bool t.mu,.int .i64 t.reg,.int .i64 t.elem,.slice B t.flds.length d] 104)):=(aZ _ _).alloc (bA _) _
 have HI:=aH (wP ts t A c w.heap.size _ (hs.keep RTy.keeps hb0) (by simp) (show RTy _ _ w.heap.size 0 t from by
  have h:∀i v,#[Value.int .i64 t.kind,.bool t.mu,.int .i64 t.reg,.int .i64 t.elem,.slice B t.flds.length d][i]?=some v->(w.alloc (.cells #[.int .i64 t.kind,.bool t.mu,.int .i64 t.reg,.int .i64 t.elem,.slice B t.flds.length d] 104)).cell? ⟨w.heap.size,i,none⟩=some v:=fun i v hi=>by
   rw [World.cell?_alloc_at _ _ _ _ (by simp)];exact hi
  exact ⟨h 0 _ rfl,h 1 _ rfl,h 2 _ rfl,h 3 _ rfl,B,d,h 4 _ rfl,ht.le,ht.big,(ht.sl.keep RInt.keeps hb0.size hb0)⟩))
 have hx:=kE (eqT t) ts 0;rw [xDM] at hx;rw [<- hx];clear hs ht hx;generalize idxF (eqT t) 0 ts=i at HI ⊢;unfold tyAgg;have HB:=aH hb0;clear hb0;go_enter Tryz.func149,Tryz.ntmps149
 go_wp2_with (go_at_call 177;refine HI.out.mono ?_;rintro e' w1 ⟨rfl,hb1⟩)
 all_goals
  go_ret2
  exact ⟨⟨_,rfl⟩,HB.out.trans (hb1.mono HB.out.size)⟩
structure Stp2 (row:Option Nat) (g:Nat) (w w':World):Prop where
 os:w'.os=w.os
 tape:w'.tape=w.tape
 output:w'.output=w.output
 size:w.heap.size<=w'.heap.size
 block:∀k,k<w.heap.size->k≠g->some k≠row->w'.heap[k]?=w.heap[k]?
theorem Stp2.of_below {row:Option Nat} {g:Nat} {w w':World} (h:Below w.heap.size w w'):Stp2 row g w w':=⟨h.os,h.tape,h.output,h.size,fun k hk _ _=>h.block k hk⟩
theorem Stp2.below {row:Option Nat} {g B:Nat} {a b:World} (h:Stp2 row g a b) (hg:B<=g) (hr:∀k,row=some k->B<=k) (hB:B<=a.heap.size):Below B a b:=
 ⟨h.os,h.tape,h.output,h.size,fun k hk=>h.block k (by omega) (by omega) (fun e=>by have:=hr k e.symm;omega)⟩
theorem Stp2.set {row:Option Nat} {g:Nat} {a b:World} (h:Stp2 row g a b) (o:Nat) (v:Value):Stp2 row g a (b.setCell ⟨g,o,none⟩ v):=
 ⟨h.os,h.tape,h.output,by simpa [World.setCell] using h.size,fun k hk hg hr=>(bJ b ⟨g,o,none⟩ v k hg).trans (h.block k hk hg hr)⟩
theorem Stp2.grown {g:Nat} {a b c:World} {row:Option Nat} (h:Below a.heap.size a b) (hg:b.grownBy c row):Stp2 row g a c:=
 ⟨hg.os.trans h.os,hg.tape.trans h.tape,hg.output.trans h.output,cA h.size hg.size,fun k hk _ hr=>(hg.block k (bP hk h.size) hr).trans (h.block k hk)⟩
theorem vC {w:World} {k:Nat} {a b:Value} {t:TypeId} (x:Value) (h:w.heap[k]?=some (.cells #[a,b] t)):(w.setCell ⟨k,1,none⟩ x).heap[k]?=some (.cells #[a,x] t):=by
 simp [World.setCell,Array.getElem?_modify,h]
theorem dZ {w:World} {k:Nat} {a b:Value} {t:TypeId} (h:w.heap[k]?=some (.cells #[a,b] t)):w.cell? ⟨k,0,none⟩=some a/\w.cell? ⟨k,1,none⟩=some b/\w.frozen? ⟨k,0,none⟩=false/\w.frozen? ⟨k,1,none⟩=false:=by
 simp [World.cell?,World.frozen?,h]
def addE (d:List Int) (n:Int) (t:Ty):Int × Int:=
 if t.kind<0\/4<t.kind then (14,0)
 else if (t.kind≠3/\(t.mu=true\/t.reg≠0\/t.elem≠0))\/(t.kind≠4/\0<t.flds.length) then (2,0)
 else if t.kind=3/\(t.reg<0\/n<=t.reg) then (3,0)
 else match depF d 0 (if t.kind=3 then [t.elem] else t.flds) with
  | none=>(3,0)
  | some k=>
    if t.kind=4/\(t.flds.length=0\/65535<t.flds.length) then (15,0)
    else if 32<=k then (19,0)
    else (0,k+1)
theorem xBX (prev:List Ty) (d:List Int) (n:Int) (t:Ty):tyE prev d n t=if (addE d n t).1=0/\t∈prev then (21,0) else addE d n t:=by
 unfold tyE addE;generalize depF d 0 (if t.kind=3 then [t.elem] else t.flds)=o;split
 ·simp
 split
 ·simp
 split
 ·simp
 cases o with
 | none=>simp
 | some k=>
   simp only;split
   ·simp
   split
   ·simp
   split
   ·rw [bD (by simpa)]
   ·rw [bB (by simpa)]
def addP (base g:Nat) (row:Option Nat) (n:Int) (ds:List Int) (r:Int × Int) (w:World) (e':Ending) (w':World):Prop:=
 e' = .returned (.int .i64 r.1)/\Stp2 row g w w'/\(r.1=0->∃v',w'.heap[g]?=some (.cells #[.int .i64 n,v'] 223)/\w'.ownsRow base 3 1 v' (ds ++ [r.2]).length ((ds ++ [r.2]).map (Value.int .i64)))
theorem eR {base g:Nat} {row:Option Nat} {n:Int} {ds:List Int} {q:Int} {w:World} {w':World} (h:Stp2 row g w w') (hq:q≠0):addP base g row n ds (q,0) w (.returned (.int .i64 q)) w':=⟨rfl,h,fun h=>absurd h hq⟩
theorem xAZ (ds:List Int) (n:Int) (t:Ty) (g base:Nat) (v:Value) (A:Option Addr) (c:Nat) (w:World) (_hg:w.heap[g]?=some (.cells #[.int .i64 n,v] 223)) (_hown:w.ownsRow base 3 1 v ds.length (ds.map (Value.int .i64))) (_hgb:g<base) (hb:base<=w.heap.size) (_hl:ds.length<=65535) (_ht:Slc 1 RInt w A c t.flds) (hbad:t.kind<0\/4<t.kind):
 Calls Tryz.prog 148 #[.pointer (some ⟨g,0,none⟩),tyAgg t A c] w fun e' w'=>addP base g v.ownBlock n ds (addE ds n t) w e' w':=by
 have HF:Hid (addE ds n t=(14,0)):=aH (by unfold addE;rw [bD hbad]);have e0:(t.kind == 0)=false:=by simp;omega
 have e1:(t.kind == 1)=false:=by simp;omega
 have e2:(t.kind == 2)=false:=by simp;omega
 have e3:(t.kind == 3)=false:=by simp;omega
 have e4:(t.kind == 4)=false:=by simp;omega
 have HB:=aH hb;rw [HF.out];clear _hg _hown _ht hbad;unfold tyAgg;go_enter Tryz.func148,Tryz.ntmps148
 go_wp2_with fail
 go_ret;exact eR (Stp2.of_below ((aZ _ _).alloc (bA _) _)) (by omega)
theorem xBA (ds:List Int) (n:Int) (t:Ty) (g base:Nat) (v:Value) (A:Option Addr) (c:Nat) (w:World) (_hg:w.heap[g]?=some (.cells #[.int .i64 n,v] 223)) (_hown:w.ownsRow base 3 1 v ds.length (ds.map (Value.int .i64))) (_hgb:g<base) (hb:base<=w.heap.size) (_hl:ds.length<=65535) (_ht:Slc 1 RInt w A c t.flds) (hk0:0<=t.kind) (hk4:t.kind<=4) (hbad:(t.kind≠3/\(t.mu=true\/t.reg≠0\/t.elem≠0))\/(t.kind≠4/\0<t.flds.length)):
 Calls Tryz.prog 148 #[.pointer (some ⟨g,0,none⟩),tyAgg t A c] w fun e' w'=>addP base g v.ownBlock n ds (addE ds n t) w e' w':=by
 have HF:Hid (addE ds n t=(2,0)):=aH (by unfold addE;rw [bB (by omega),bD hbad]);have HB:=aH hb;rw [HF.out];clear _hown _ht _hg;unfold tyAgg;obtain ⟨k,mu,rg,el,fl⟩:=t;simp only at *;rcases (show k=0\/k=1\/k=2\/k=3\/k=4 by omega) with rfl | rfl | rfl | rfl | rfl
 all_goals
  go_enter Tryz.func148,Tryz.ntmps148
  go_wp2_with fail
  all_goals first
   | (go_ret;exact eR (Stp2.of_below ((aZ _ _).alloc (bA _) _)) (by omega))
   | (exfalso;clear HF HB;grind)
theorem fZ {ds l:List Int} {o:Option Int} (h:depF ds 0 l=o):depP ds l=depQ o:=by unfold depP;rw [h]
structure Shape (n:Int) (t:Ty):Prop where
 k0:0<=t.kind
 k4:t.kind<=4
 plain:t.kind≠3->t.mu=false/\t.reg=0/\t.elem=0
 flat:t.kind≠4->t.flds=[]
 reg:t.kind=3->0<=t.reg/\t.reg<n
theorem xDP (ds:List Int) (n:Int) (t:Ty) (g base:Nat) (v:Value) (A:Option Addr) (c:Nat) (w:World) (hg:w.heap[g]?=some (.cells #[.int .i64 n,v] 223)) (_hown:w.ownsRow base 3 1 v ds.length (ds.map (Value.int .i64))) (hgb:g<base) (hb:base<=w.heap.size) (_hl:ds.length<=65535) (_ht:Slc 1 RInt w A c t.flds) (hk:t.kind=3) (hf:t.flds=[]) (hbad:t.reg<0\/n<=t.reg):
 Calls Tryz.prog 148 #[.pointer (some ⟨g,0,none⟩),tyAgg t A c] w fun e' w'=>addP base g v.ownBlock n ds (addE ds n t) w e' w':=by
 have HF:Hid (addE ds n t=(3,0)):=aH (by unfold addE;rw [bB (by omega),bB (by simp [hk,hf]),bD ⟨hk,hbad⟩]);have HB:=aH hb;obtain ⟨x0,x1,f0,f1⟩:=dZ hg;rw [HF.out];clear _hown _ht hg;unfold tyAgg;obtain ⟨k,mu,rg,el,fl⟩:=t;simp only at *;subst hk hf;simp only [bQ];have HBD:Hid (∀m,Below w.heap.size w ((w.alloc (.cells #[.int .i64 3,.bool mu,.int .i64 rg,.int .i64 el,.slice A 0 c] 104)).drewN m)):=aH (fun m=>aI ((aZ _ _).alloc (bA _) _) _);by_cases hr:rg<0
 ·have e1:decide (rg<0)=true:=by simp [hr]
  go_enter Tryz.func148,Tryz.ntmps148
  go_wp2_with fail
  go_quiet (fail)
  go_wp2_with fail
  go_ret;exact eR (Stp2.of_below (HBD.out _)) (by omega)
 ·have e1:decide (rg<0)=false:=by simp;omega
  have e2:n<=rg:=by omega
  have hge:g<w.heap.size:=by omega
  go_enter Tryz.func148,Tryz.ntmps148
  go_wp2_with fail
  go_quiet (fail)
  go_wp2_with fail
  go_ret;exact eR (Stp2.of_below (HBD.out _)) (by omega)
theorem xCG (W:World) (x:Int) (T:TypeId):Slc 1 RInt (W.alloc (.cells #[.int .i64 x] T)) (some ⟨W.heap.size,0,none⟩) 1 [x]:=by
 refine ⟨fun _=>⟨_,_,rfl,by simp,fun i y hi=>?_⟩,by simp,by omega⟩;cases i with
 | zero=>
   simp at hi;subst hi;show (W.alloc _).cell? ⟨W.heap.size,0,none⟩=_;rw [World.cell?_alloc_at _ _ _ _ (by simp)];rfl
 | succ i=>simp at hi
theorem gD (W:World) (x:Int) (T:TypeId) (k:Nat) (hk:k=W.heap.size):Slc 1 RInt (W.alloc (.cells #[.int .i64 x] T)) (some ⟨k,0,none⟩) 1 [x]:=by
 subst hk;exact xCG W x T
theorem dH (w:World) (n:Nat):(w.drewN n).heap.size=w.heap.size:=rfl
theorem eD (W:World) (x:Value) (t:TypeId) (k:Nat) (hk:k=W.heap.size):∀j u,[x][j]?=some u->(W.alloc (.cells #[x] t)).cell? ((⟨k,0,none⟩:Addr).add j)=some u:=by
 subst hk;exact cell_one_new W x t
theorem lJ {w:World} {base size m:Nat} {e:TypeId} {v:Value} {xs:List Value} (h:w.ownsRow base e size v m xs):∃A c,v = .slice A m c/\m<=c/\c<=9223372036854775807:=by
 rcases h.2 with ⟨rfl,hn⟩ | ⟨g,cap,cur,rfl,hb,hh,hnc,hm,_,_⟩
 ·subst hn;exact ⟨none,0,rfl,by omega,by omega⟩
 ·exact ⟨_,cap,rfl,by simpa using hnc,by simp only [maxLen] at hm;omega⟩
theorem xCH {α : Type} {k:Nat} {R:Rd α} {W:World} {A:Option Addr} {c:Nat} (h:c<=9223372036854775807):Slc k R W A c ([]:List α):=⟨Sl.nil,by simp,h⟩
theorem kG {w W w2:World} {g base size m:Nat} {e:TypeId} {v:Value} {xs:List Value} {o:Obj} (hgrow:W.grownBy w2 v.ownBlock) (hB:Below w.heap.size w W) (hg:w.heap[g]?=some o) (hown:w.ownsRow base e size v m xs) (hgb:g<base):w2.heap[g]?=some o:=by
 have hlt:=(Array.getElem?_eq_some_iff.1 hg).1;exact ((hgrow.block g (bP hlt hB.size) (dQ hown hgb)).trans (hB.block g hlt)).trans hg
theorem mA {w W w2:World} {g base:Nat} {n k:Int} {ds:List Int} {v v':Value} (hB:Below w.heap.size w W) (hgrow:W.grownBy w2 v.ownBlock) (hown:w.ownsRow base 3 1 v ds.length (ds.map (Value.int .i64)))
 (hown':w2.ownsRow base 3 1 v' (ds.length+1) (ds.map (Value.int .i64) ++ [.int .i64 k])) (hg:w.heap[g]?=some (.cells #[.int .i64 n,v] 223)) (hgb:g<base) (_hb:base<=w.heap.size):
 addP base g v.ownBlock n ds (0,k) w (.returned (.int .i64 0)) (w2.setCell ⟨g,1,none⟩ v'):=by
 have hg2:=kG hgrow hB hg hown hgb;refine ⟨rfl,(Stp2.grown hB hgrow).set _ _,fun _=>⟨v',vC _ hg2,?_⟩⟩;rw [bE,cI,bV];exact dC hown' (fun k hk _ _=>bJ w2 ⟨g,1,none⟩ v' k (by simp;omega))
theorem xBB (ds:List Int) (n:Int) (t:Ty) (g base:Nat) (v:Value) (A:Option Addr) (c:Nat) (w:World) (hg:w.heap[g]?=some (.cells #[.int .i64 n,v] 223)) (hown:w.ownsRow base 3 1 v ds.length (ds.map (Value.int .i64))) (hgb:g<base) (hb:base<=w.heap.size) (hl:ds.length<=65535) (ht:Slc 1 RInt w A c t.flds) (hs:Shape n t) (hk:t.kind<=2):
 Calls Tryz.prog 148 #[.pointer (some ⟨g,0,none⟩),tyAgg t A c] w fun e' w'=>addP base g v.ownBlock n ds (addE ds n t) w e' w':=by
 obtain ⟨hk0,hk4,hpl,hfl,hrg⟩:=hs;have hf:=hfl (by omega);obtain ⟨hmu,hreg,hel⟩:=hpl (by omega);have hdep:depF ds 0 t.flds=some 0:=by rw [hf];rfl
 have HF:Hid (addE ds n t=(0,1)):=aH (by
  unfold addE;rw [bB (by omega),bB (by simp [hmu,hreg,hel,hf]),bB (by omega),bB (by omega),hdep];simp only
  rw [bB (by omega),bB (by omega)];rfl)
 rw [HF.out];obtain ⟨x0,x1,f0,f1⟩:=dZ hg;obtain ⟨i0,hi,hz0,hz1,hz2⟩:=info_parts dV;obtain ⟨B,d,rfl,hsl⟩:=dL hown;have HOWN:=aH hown;have HG:=aH hg;have HB:=aH hb;have hgw:g<w.heap.size:=by omega
 have hgl:=eB hgw;have hcb:=ht.big;have hlen:=hsl.le;have hdb:=hsl.big;clear hown hg ht hb;unfold tyAgg;obtain ⟨k,mu,rg,el,fl⟩:=t;simp only at *;subst hmu hreg hel hf;have HBW:Below w.heap.size w (w.alloc (.cells #[.int .i64 k,.bool false,.int .i64 0,.int .i64 0,.slice A 0 c] 104)):=(aZ _ _).alloc (bA _) _;have HSL:Slc 1 RInt (w.alloc (.cells #[.int .i64 k,.bool false,.int .i64 0,.int .i64 0,.slice A 0 c] 104)) A c ([]:List Int):=xCH hcb;have HBA:Hid (Below w.heap.size w ((w.alloc (.cells #[.int .i64 k,.bool false,.int .i64 0,.int .i64 0,.slice A 0 c] 104)).alloc (.cells #[.int .i64 1] 3))):=aH (HBW.alloc (by simp) _);simp only [bQ];rcases (show k=0\/k=1\/k=2 by omega) with rfl | rfl | rfl
 all_goals
  go_enter Tryz.func148,Tryz.ntmps148
  go_wp2_with (first
   | (go_at_call 176;refine (eL ds _ g _ _ _ _ _ (cQ HBW x1) (hsl.keep RInt.keeps HBW) HSL).mono ?_;rintro e' w' ⟨rfl,hw⟩;obtain rfl:=hw.symm;rw [fZ hdep];simp only [depQ])
   | (at_builtin;refine wpList_append_own _ rfl _ _ 48 rfl base 3 i0 (.int .i64 0) 1 8 Tryz.underlying48 hi hz0 hz1 hz2 rfl (by decide) _ _ _ rfl (dE HOWN.out HBA.out) ⟨_,0,none⟩ 1 1 [.int .i64 1] rfl rfl (eD _ _ _ _ (by simp)) (ints_oneCell .i64 [1]) (by unfold maxLen;omega) (by omega) (cA HB.out HBA.out.size) ?_;intro v' w2 hown' hgrow _;obtain ⟨B',d',rfl,_⟩:=lJ hown';obtain ⟨y0,y1,f2,f3⟩:=dZ (kG hgrow HBA.out HG.out HOWN.out hgb);have HFIN:=aH (mA HBA.out hgrow HOWN.out hown' HG.out hgb HB.out)))
  go_ret;exact HFIN.out
theorem xQ (ds:List Int) (n:Int) (t:Ty) (g base:Nat) (v:Value) (A:Option Addr) (c:Nat) (w:World) (hg:w.heap[g]?=some (.cells #[.int .i64 n,v] 223)) (hown:w.ownsRow base 3 1 v ds.length (ds.map (Value.int .i64))) (hgb:g<base) (hb:base<=w.heap.size) (_hl:ds.length<=65535) (ht:Slc 1 RInt w A c t.flds) (hk:t.kind=3) (hf:t.flds=[]) (hrg:0<=t.reg/\t.reg<n) (hdep:depF ds 0 [t.elem]=none):
 Calls Tryz.prog 148 #[.pointer (some ⟨g,0,none⟩),tyAgg t A c] w fun e' w'=>addP base g v.ownBlock n ds (addE ds n t) w e' w':=by
 have HF:Hid (addE ds n t=(3,0)):=aH (by
  unfold addE;rw [bB (by omega),bB (by simp [hk,hf]),bB (by omega),bD hk,hdep]
  )
 rw [HF.out];obtain ⟨x0,x1,f0,f1⟩:=dZ hg;obtain ⟨i0,hi,hz0,hz1,hz2⟩:=info_parts dV;obtain ⟨B,d,rfl,hsl⟩:=dL hown;have HOWN:=aH hown;have HG:=aH hg;have HB:=aH hb;have hgw:g<w.heap.size:=by omega
 have hgl:=eB hgw;have hcb:=ht.big;have hcl:=ht.le;have HT:=aH ht;have hlen:=hsl.le;have hdb:=hsl.big;clear hown hg ht hb;unfold tyAgg;obtain ⟨k,mu,rg,el,fl⟩:=t;simp only at *;subst hk hf;simp only [bQ];obtain ⟨hr1,hr2⟩:=hrg;have e1:decide (rg<0)=false:=by simp;omega
 have e2:¬n<=rg:=by omega
 have HBQ:Hid (∀m,Below w.heap.size w ((w.alloc (.cells #[.int .i64 3,.bool mu,.int .i64 rg,.int .i64 el,.slice A 0 c] 104)).drewN m)):=aH (fun m=>aI ((aZ _ _).alloc (bA _) _) _);have HBD:Hid (∀m,Below w.heap.size w (((w.alloc (.cells #[.int .i64 3,.bool mu,.int .i64 rg,.int .i64 el,.slice A 0 c] 104)).drewN m).alloc (.cells #[.int .i64 el] 3))):=aH (fun m=>((HBQ.out m).alloc (by simp) _));go_enter Tryz.func148,Tryz.ntmps148
 go_wp2_with fail
 go_quiet (fail)
 go_wp2_with (first
  | (go_at_call 176;refine (eL ds [el] g _ _ _ _ _ (cQ ((HBQ.out _).alloc (by simp) _) x1) (hsl.keep RInt.keeps ((HBQ.out _).alloc (by simp) _)) (gD _ _ _ _ (by rw [dH];simp))).mono ?_;rintro e' w' ⟨rfl,hw⟩;obtain rfl:=hw.symm;rw [fZ hdep];simp only [depQ]))
 all_goals first
  | (go_ret;exact eR (Stp2.of_below (HBD.out _)) (by omega))
  | (exfalso;omega)
theorem xS (ds:List Int) (n:Int) (t:Ty) (g base:Nat) (v:Value) (A:Option Addr) (c:Nat) (w:World) (hg:w.heap[g]?=some (.cells #[.int .i64 n,v] 223)) (hown:w.ownsRow base 3 1 v ds.length (ds.map (Value.int .i64))) (hgb:g<base) (hb:base<=w.heap.size) (_hl:ds.length<=65535) (ht:Slc 1 RInt w A c t.flds) (hk:t.kind=3) (hf:t.flds=[]) (hrg:0<=t.reg/\t.reg<n) (kd:Int) (hdep:depF ds 0 [t.elem]=some kd) (hkd:32<=kd):
 Calls Tryz.prog 148 #[.pointer (some ⟨g,0,none⟩),tyAgg t A c] w fun e' w'=>addP base g v.ownBlock n ds (addE ds n t) w e' w':=by
 have HF:Hid (addE ds n t=(19,0)):=aH (by
  unfold addE;rw [bB (by omega),bB (by simp [hk,hf]),bB (by omega),bD hk,hdep];simp only
  rw [bB (by omega),bD hkd])
 rw [HF.out];obtain ⟨x0,x1,f0,f1⟩:=dZ hg;obtain ⟨i0,hi,hz0,hz1,hz2⟩:=info_parts dV;obtain ⟨B,d,rfl,hsl⟩:=dL hown;have HOWN:=aH hown;have HG:=aH hg;have HB:=aH hb;have hgw:g<w.heap.size:=by omega
 have hgl:=eB hgw;have hcb:=ht.big;have hcl:=ht.le;have HT:=aH ht;have hlen:=hsl.le;have hdb:=hsl.big;clear hown hg ht hb;unfold tyAgg;obtain ⟨k,mu,rg,el,fl⟩:=t;simp only at *;subst hk hf;simp only [bQ];obtain ⟨hr1,hr2⟩:=hrg;have e1:decide (rg<0)=false:=by simp;omega
 have e2:¬n<=rg:=by omega
 have HBQ:Hid (∀m,Below w.heap.size w ((w.alloc (.cells #[.int .i64 3,.bool mu,.int .i64 rg,.int .i64 el,.slice A 0 c] 104)).drewN m)):=aH (fun m=>aI ((aZ _ _).alloc (bA _) _) _);have HBD:Hid (∀m,Below w.heap.size w (((w.alloc (.cells #[.int .i64 3,.bool mu,.int .i64 rg,.int .i64 el,.slice A 0 c] 104)).drewN m).alloc (.cells #[.int .i64 el] 3))):=aH (fun m=>((HBQ.out m).alloc (by simp) _));go_enter Tryz.func148,Tryz.ntmps148
 go_wp2_with fail
 go_quiet (fail)
 go_wp2_with (first
  | (go_at_call 176;refine (eL ds [el] g _ _ _ _ _ (cQ ((HBQ.out _).alloc (by simp) _) x1) (hsl.keep RInt.keeps ((HBQ.out _).alloc (by simp) _)) (gD _ _ _ _ (by rw [dH];simp))).mono ?_;rintro e' w' ⟨rfl,hw⟩;obtain rfl:=hw.symm;rw [fZ hdep];simp only [depQ]))
 all_goals first
  | (go_ret;exact eR (Stp2.of_below (HBD.out _)) (by omega))
  | (exfalso;omega)
theorem xR (ds:List Int) (n:Int) (t:Ty) (g base:Nat) (v:Value) (A:Option Addr) (c:Nat) (w:World) (hg:w.heap[g]?=some (.cells #[.int .i64 n,v] 223)) (hown:w.ownsRow base 3 1 v ds.length (ds.map (Value.int .i64))) (hgb:g<base) (hb:base<=w.heap.size) (hl:ds.length<=65535) (ht:Slc 1 RInt w A c t.flds) (hk:t.kind=3) (hf:t.flds=[]) (hrg:0<=t.reg/\t.reg<n) (kd:Int) (hdep:depF ds 0 [t.elem]=some kd) (hkd0:0<=kd) (hkd:¬32<=kd):
 Calls Tryz.prog 148 #[.pointer (some ⟨g,0,none⟩),tyAgg t A c] w fun e' w'=>addP base g v.ownBlock n ds (addE ds n t) w e' w':=by
 have HF:Hid (addE ds n t=(0,kd+1)):=aH (by
  unfold addE;rw [bB (by omega),bB (by simp [hk,hf]),bB (by omega),bD hk,hdep];simp only
  rw [bB (by omega),bB hkd])
 rw [HF.out];obtain ⟨x0,x1,f0,f1⟩:=dZ hg;obtain ⟨i0,hi,hz0,hz1,hz2⟩:=info_parts dV;obtain ⟨B,d,rfl,hsl⟩:=dL hown;have HOWN:=aH hown;have HG:=aH hg;have HB:=aH hb;have hgw:g<w.heap.size:=by omega
 have hgl:=eB hgw;have hcb:=ht.big;have hcl:=ht.le;have HT:=aH ht;have hlen:=hsl.le;have hdb:=hsl.big;clear hown hg ht hb;unfold tyAgg;obtain ⟨k,mu,rg,el,fl⟩:=t;simp only at *;subst hk hf;simp only [bQ];obtain ⟨hr1,hr2⟩:=hrg;have e1:decide (rg<0)=false:=by simp;omega
 have e2:¬n<=rg:=by omega
 have HBQ:Hid (∀m,Below w.heap.size w ((w.alloc (.cells #[.int .i64 3,.bool mu,.int .i64 rg,.int .i64 el,.slice A 0 c] 104)).drewN m)):=aH (fun m=>aI ((aZ _ _).alloc (bA _) _) _);have e3:¬32<=kd:=by omega
 have HBAm:Hid (∀m,Below w.heap.size w ((((w.alloc (.cells #[.int .i64 3,.bool mu,.int .i64 rg,.int .i64 el,.slice A 0 c] 104)).drewN m).alloc (.cells #[.int .i64 el] 3)).alloc (.cells #[.int .i64 (kd+1)] 3))):=aH (fun m=>((HBQ.out m).alloc (by simp) _).alloc (by simp;omega) _);go_enter Tryz.func148,Tryz.ntmps148
 go_wp2_with fail
 go_quiet (fail)
 go_wp2_with (first
  | (go_at_call 176;refine (eL ds [el] g _ _ _ _ _ (cQ ((HBQ.out _).alloc (by simp) _) x1) (hsl.keep RInt.keeps ((HBQ.out _).alloc (by simp) _)) (gD _ _ _ _ (by rw [dH];simp))).mono ?_;rintro e' w' ⟨rfl,hw⟩;obtain rfl:=hw.symm;rw [fZ hdep];simp only [depQ])
  | (at_builtin;refine wpList_append_own _ rfl _ _ 48 rfl base 3 i0 (.int .i64 0) 1 8 Tryz.underlying48 hi hz0 hz1 hz2 rfl (by decide) _ _ _ rfl (dE HOWN.out (HBAm.out _)) ⟨_,0,none⟩ 1 1 [.int .i64 (kd+1)] rfl rfl (eD _ _ _ _ (by simp)) (ints_oneCell .i64 [kd+1]) (by unfold maxLen;omega) (by omega) (cA HB.out (HBAm.out _).size) ?_;intro v' w2 hown' hgrow _;obtain ⟨B',d',rfl,_⟩:=lJ hown';obtain ⟨y0,y1,f2,f3⟩:=dZ (kG hgrow (HBAm.out _) HG.out HOWN.out hgb);have HFIN:=aH (mA (HBAm.out _) hgrow HOWN.out hown' HG.out hgb HB.out)))
 all_goals first
  | (exfalso;omega)
  | (go_ret;exact HFIN.out)
theorem xN (ds:List Int) (n:Int) (t:Ty) (g base:Nat) (v:Value) (A:Option Addr) (c:Nat) (w:World) (hg:w.heap[g]?=some (.cells #[.int .i64 n,v] 223)) (hown:w.ownsRow base 3 1 v ds.length (ds.map (Value.int .i64))) (hgb:g<base) (hb:base<=w.heap.size) (_hl:ds.length<=65535) (ht:Slc 1 RInt w A c t.flds) (hk:t.kind=4) (hmu:t.mu=false) (hreg:t.reg=0) (hel:t.elem=0) (hdep:depF ds 0 t.flds=none):
 Calls Tryz.prog 148 #[.pointer (some ⟨g,0,none⟩),tyAgg t A c] w fun e' w'=>addP base g v.ownBlock n ds (addE ds n t) w e' w':=by
 have HF:Hid (addE ds n t=(3,0)):=aH (by
  unfold addE;rw [bB (by omega),bB (by simp [hk,hmu,hreg,hel]),bB (by omega),bB (by omega),hdep]
  )
 rw [HF.out];obtain ⟨x0,x1,f0,f1⟩:=dZ hg;obtain ⟨i0,hi,hz0,hz1,hz2⟩:=info_parts dV;obtain ⟨B,d,rfl,hsl⟩:=dL hown;have HOWN:=aH hown;have HG:=aH hg;have HB:=aH hb;have hgw:g<w.heap.size:=by omega
 have hgl:=eB hgw;have hcb:=ht.big;have hcl:=ht.le;have HT:=aH ht;have hlen:=hsl.le;have hdb:=hsl.big;clear hown hg ht hb;unfold tyAgg;obtain ⟨k,mu,rg,el,fl⟩:=t;simp only at *;subst hk hmu hreg hel;have HDEP:=aH (fun W (hb:Below w.heap.size w W)=>eL ds fl g A B c d W (cQ hb x1) (hsl.keep RInt.keeps hb) (HT.out.keep RInt.keeps hb));rw [fZ hdep] at HDEP;simp only [depQ] at HDEP;obtain ⟨m,hm⟩:∃m,fl.length=m:=⟨_,rfl⟩;rw [hm] at HDEP hcl;rw [hm];clear hm HT HF;have HBW:Below w.heap.size w (w.alloc (.cells #[.int .i64 4,.bool false,.int .i64 0,.int .i64 0,.slice A m c] 104)):=(aZ _ _).alloc (bA _) _;have HBD:=aH (fun (_:Nat)=>HBW);go_enter Tryz.func148,Tryz.ntmps148
 go_wp2_with (first
  | (go_at_call 176;refine (HDEP.out _ HBW).mono ?_;rintro e' w' ⟨rfl,hw⟩;obtain rfl:=hw.symm))
 all_goals first
  | (go_ret;exact eR (Stp2.of_below (HBD.out 0)) (by omega))
  | (exfalso;omega)
theorem xBC (ds:List Int) (n:Int) (t:Ty) (g base:Nat) (v:Value) (A:Option Addr) (c:Nat) (w:World) (hg:w.heap[g]?=some (.cells #[.int .i64 n,v] 223)) (hown:w.ownsRow base 3 1 v ds.length (ds.map (Value.int .i64))) (hgb:g<base) (hb:base<=w.heap.size) (_hl:ds.length<=65535) (ht:Slc 1 RInt w A c t.flds) (hk:t.kind=4) (hmu:t.mu=false) (hreg:t.reg=0) (hel:t.elem=0) (kd:Int) (hdep:depF ds 0 t.flds=some kd) (hlim:t.flds.length=0\/65535<t.flds.length):
 Calls Tryz.prog 148 #[.pointer (some ⟨g,0,none⟩),tyAgg t A c] w fun e' w'=>addP base g v.ownBlock n ds (addE ds n t) w e' w':=by
 have HF:Hid (addE ds n t=(15,0)):=aH (by
  unfold addE;rw [bB (by omega),bB (by simp [hk,hmu,hreg,hel]),bB (by omega),bB (by omega),hdep];simp only
  rw [bD ⟨hk,hlim⟩])
 rw [HF.out];obtain ⟨x0,x1,f0,f1⟩:=dZ hg;obtain ⟨i0,hi,hz0,hz1,hz2⟩:=info_parts dV;obtain ⟨B,d,rfl,hsl⟩:=dL hown;have HOWN:=aH hown;have HG:=aH hg;have HB:=aH hb;have hgw:g<w.heap.size:=by omega
 have hgl:=eB hgw;have hcb:=ht.big;have hcl:=ht.le;have HT:=aH ht;have hlen:=hsl.le;have hdb:=hsl.big;clear hown hg ht hb;unfold tyAgg;obtain ⟨k,mu,rg,el,fl⟩:=t;simp only at *;subst hk hmu hreg hel;have HDEP:=aH (fun W (hb:Below w.heap.size w W)=>eL ds fl g A B c d W (cQ hb x1) (hsl.keep RInt.keeps hb) (HT.out.keep RInt.keeps hb));rw [fZ hdep] at HDEP;simp only [depQ] at HDEP;obtain ⟨m,hm⟩:∃m,fl.length=m:=⟨_,rfl⟩;rw [hm] at HDEP hcl hlim;rw [hm];clear hm HT HF;have HBW:Below w.heap.size w (w.alloc (.cells #[.int .i64 4,.bool false,.int .i64 0,.int .i64 0,.slice A m c] 104)):=(aZ _ _).alloc (bA _) _;have HBD:=aH (fun (_:Nat)=>HBW);rcases hlim with rfl | hlim
 all_goals
  go_enter Tryz.func148,Tryz.ntmps148
  go_wp2_with (first
   | (go_at_call 176;refine (HDEP.out _ HBW).mono ?_;rintro e' w' ⟨rfl,hw⟩;obtain rfl:=hw.symm))
  all_goals first
   | (go_ret;exact eR (Stp2.of_below (HBD.out 0)) (by omega))
   | (exfalso;omega)
theorem xP (ds:List Int) (n:Int) (t:Ty) (g base:Nat) (v:Value) (A:Option Addr) (c:Nat) (w:World) (hg:w.heap[g]?=some (.cells #[.int .i64 n,v] 223)) (hown:w.ownsRow base 3 1 v ds.length (ds.map (Value.int .i64))) (hgb:g<base) (hb:base<=w.heap.size) (_hl:ds.length<=65535) (ht:Slc 1 RInt w A c t.flds) (hk:t.kind=4) (hmu:t.mu=false) (hreg:t.reg=0) (hel:t.elem=0) (kd:Int) (hdep:depF ds 0 t.flds=some kd) (hlim:¬(t.flds.length=0\/65535<t.flds.length)) (hkd:32<=kd):
 Calls Tryz.prog 148 #[.pointer (some ⟨g,0,none⟩),tyAgg t A c] w fun e' w'=>addP base g v.ownBlock n ds (addE ds n t) w e' w':=by
 have HF:Hid (addE ds n t=(19,0)):=aH (by
  unfold addE;rw [bB (by omega),bB (by simp [hk,hmu,hreg,hel]),bB (by omega),bB (by omega),hdep];simp only
  rw [bB (by omega),bD hkd])
 rw [HF.out];obtain ⟨x0,x1,f0,f1⟩:=dZ hg;obtain ⟨i0,hi,hz0,hz1,hz2⟩:=info_parts dV;obtain ⟨B,d,rfl,hsl⟩:=dL hown;have HOWN:=aH hown;have HG:=aH hg;have HB:=aH hb;have hgw:g<w.heap.size:=by omega
 have hgl:=eB hgw;have hcb:=ht.big;have hcl:=ht.le;have HT:=aH ht;have hlen:=hsl.le;have hdb:=hsl.big;clear hown hg ht hb;unfold tyAgg;obtain ⟨k,mu,rg,el,fl⟩:=t;simp only at *;subst hk hmu hreg hel;have HDEP:=aH (fun W (hb:Below w.heap.size w W)=>eL ds fl g A B c d W (cQ hb x1) (hsl.keep RInt.keeps hb) (HT.out.keep RInt.keeps hb));rw [fZ hdep] at HDEP;simp only [depQ] at HDEP;obtain ⟨m,hm⟩:∃m,fl.length=m:=⟨_,rfl⟩;rw [hm] at HDEP hcl hlim;rw [hm];clear hm HT HF;have hl1:0<m:=by omega
 have hl2:m<=65535:=by omega
 have e4:((m:Int) == 0)=false:=by simp;omega
 have e5:¬(65535:Int)<(m:Int):=by omega
 clear hlim;have HBW:Below w.heap.size w (w.alloc (.cells #[.int .i64 4,.bool false,.int .i64 0,.int .i64 0,.slice A m c] 104)):=(aZ _ _).alloc (bA _) _;have HBD:=aH (fun (_:Nat)=>HBW);go_enter Tryz.func148,Tryz.ntmps148
 go_wp2_with (first
  | (go_at_call 176;refine (HDEP.out _ HBW).mono ?_;rintro e' w' ⟨rfl,hw⟩;obtain rfl:=hw.symm))
 all_goals first
  | (go_ret;exact eR (Stp2.of_below (HBD.out 0)) (by omega))
  | (exfalso;omega)
theorem xO (ds:List Int) (n:Int) (t:Ty) (g base:Nat) (v:Value) (A:Option Addr) (c:Nat) (w:World) (hg:w.heap[g]?=some (.cells #[.int .i64 n,v] 223)) (hown:w.ownsRow base 3 1 v ds.length (ds.map (Value.int .i64))) (hgb:g<base) (hb:base<=w.heap.size) (hl:ds.length<=65535) (ht:Slc 1 RInt w A c t.flds) (hk:t.kind=4) (hmu:t.mu=false) (hreg:t.reg=0) (hel:t.elem=0) (kd:Int) (hdep:depF ds 0 t.flds=some kd) (hlim:¬(t.flds.length=0\/65535<t.flds.length)) (hkd0:0<=kd) (hkd:¬32<=kd):
 Calls Tryz.prog 148 #[.pointer (some ⟨g,0,none⟩),tyAgg t A c] w fun e' w'=>addP base g v.ownBlock n ds (addE ds n t) w e' w':=by
 have HF:Hid (addE ds n t=(0,kd+1)):=aH (by
  unfold addE;rw [bB (by omega),bB (by simp [hk,hmu,hreg,hel]),bB (by omega),bB (by omega),hdep];simp only
  rw [bB (by omega),bB hkd])
 rw [HF.out];obtain ⟨x0,x1,f0,f1⟩:=dZ hg;obtain ⟨i0,hi,hz0,hz1,hz2⟩:=info_parts dV;obtain ⟨B,d,rfl,hsl⟩:=dL hown;have HOWN:=aH hown;have HG:=aH hg;have HB:=aH hb;have hgw:g<w.heap.size:=by omega
 have hgl:=eB hgw;have hcb:=ht.big;have hcl:=ht.le;have HT:=aH ht;have hlen:=hsl.le;have hdb:=hsl.big;clear hown hg ht hb;unfold tyAgg;obtain ⟨k,mu,rg,el,fl⟩:=t;simp only at *;subst hk hmu hreg hel;have HDEP:=aH (fun W (hb:Below w.heap.size w W)=>eL ds fl g A B c d W (cQ hb x1) (hsl.keep RInt.keeps hb) (HT.out.keep RInt.keeps hb));rw [fZ hdep] at HDEP;simp only [depQ] at HDEP;obtain ⟨m,hm⟩:∃m,fl.length=m:=⟨_,rfl⟩;rw [hm] at HDEP hcl hlim;rw [hm];clear hm HT HF;have hl1:0<m:=by omega
 have hl2:m<=65535:=by omega
 have e4:((m:Int) == 0)=false:=by simp;omega
 have e5:¬(65535:Int)<(m:Int):=by omega
 clear hlim;have HBW:Below w.heap.size w (w.alloc (.cells #[.int .i64 4,.bool false,.int .i64 0,.int .i64 0,.slice A m c] 104)):=(aZ _ _).alloc (bA _) _;have HBD:=aH (fun (_:Nat)=>HBW);have e3:¬32<=kd:=by omega
 have HBA:Hid (Below w.heap.size w ((w.alloc (.cells #[.int .i64 4,.bool false,.int .i64 0,.int .i64 0,.slice A m c] 104)).alloc (.cells #[.int .i64 (kd+1)] 3))):=aH (HBW.alloc (by simp) _);go_enter Tryz.func148,Tryz.ntmps148
 go_wp2_with (first
  | (go_at_call 176;refine (HDEP.out _ HBW).mono ?_;rintro e' w' ⟨rfl,hw⟩;obtain rfl:=hw.symm)
  | (at_builtin;refine wpList_append_own _ rfl _ _ 48 rfl base 3 i0 (.int .i64 0) 1 8 Tryz.underlying48 hi hz0 hz1 hz2 rfl (by decide) _ _ _ rfl (dE HOWN.out HBA.out) ⟨_,0,none⟩ 1 1 [.int .i64 (kd+1)] rfl rfl (eD _ _ _ _ (by simp)) (ints_oneCell .i64 [kd+1]) (by unfold maxLen;omega) (by omega) (cA HB.out HBA.out.size) ?_;intro v' w2 hown' hgrow _;obtain ⟨B',d',rfl,_⟩:=lJ hown';obtain ⟨y0,y1,f2,f3⟩:=dZ (kG hgrow HBA.out HG.out HOWN.out hgb);have HFIN:=aH (mA HBA.out hgrow HOWN.out hown' HG.out hgb HB.out)))
 all_goals first
  | (exfalso;omega)
  | (go_ret;exact HFIN.out)
theorem qH (d:List Int):∀(l:List Int) (a k:Int),depF d a l=some k->a<=k
 | [],a,k,h=>by simp [depF] at h;omega
 | i :: r,a,k,h=>by
   rw [depF] at h;split at h
   ·cases h
   ·split at h
    ·cases h
    ·have:=qH d r _ k h;omega
theorem xDQ (ds:List Int) (n:Int) (t:Ty) (g base:Nat) (v:Value) (A:Option Addr) (c:Nat) (w:World) (hg:w.heap[g]?=some (.cells #[.int .i64 n,v] 223)) (hown:w.ownsRow base 3 1 v ds.length (ds.map (Value.int .i64))) (hgb:g<base) (hb:base<=w.heap.size) (hl:ds.length<=65535) (ht:Slc 1 RInt w A c t.flds):
 Calls Tryz.prog 148 #[.pointer (some ⟨g,0,none⟩),tyAgg t A c] w fun e' w'=>addP base g v.ownBlock n ds (addE ds n t) w e' w':=by
 by_cases h1:t.kind<0\/4<t.kind
 ·exact xAZ ds n t g base v A c w hg hown hgb hb hl ht h1
 by_cases h2:(t.kind≠3/\(t.mu=true\/t.reg≠0\/t.elem≠0))\/(t.kind≠4/\0<t.flds.length)
 ·exact xBA ds n t g base v A c w hg hown hgb hb hl ht (by omega) (by omega) h2
 have hpl:t.kind≠3->t.mu=false/\t.reg=0/\t.elem=0:=fun h=>by
  by_cases hm:t.mu=true
  ·exact absurd (.inl ⟨h,.inl hm⟩) h2
  ·refine ⟨by simpa using hm,?_,?_⟩
   ·exact Decidable.byContradiction fun hr=>h2 (.inl ⟨h,.inr (.inl hr)⟩)
   ·exact Decidable.byContradiction fun hr=>h2 (.inl ⟨h,.inr (.inr hr)⟩)
 have hfl:t.kind≠4->t.flds=[]:=fun h=>by
  rcases Nat.eq_zero_or_pos t.flds.length with h0 | h0
  ·exact bW h0
  ·exact absurd (.inr ⟨h,h0⟩) h2
 by_cases h3:t.kind=3
 ·have hf:=hfl (by omega);by_cases hr:t.reg<0\/n<=t.reg
  ·exact xDP ds n t g base v A c w hg hown hgb hb hl ht h3 hf hr
  ·cases hd:depF ds 0 [t.elem] with
   | none=>exact xQ ds n t g base v A c w hg hown hgb hb hl ht h3 hf (by omega) hd
   | some kd=>
     by_cases h32:32<=kd
     ·exact xS ds n t g base v A c w hg hown hgb hb hl ht h3 hf (by omega) kd hd h32
     ·exact xR ds n t g base v A c w hg hown hgb hb hl ht h3 hf (by omega) kd hd (qH _ _ _ _ hd) h32
 by_cases h4:t.kind=4
 ·obtain ⟨hm,hr,he⟩:=hpl h3;cases hd:depF ds 0 t.flds with
  | none=>exact xN ds n t g base v A c w hg hown hgb hb hl ht h4 hm hr he hd
  | some kd=>
    by_cases hlim:t.flds.length=0\/65535<t.flds.length
    ·exact xBC ds n t g base v A c w hg hown hgb hb hl ht h4 hm hr he kd hd hlim
    ·by_cases h32:32<=kd
     ·exact xP ds n t g base v A c w hg hown hgb hb hl ht h4 hm hr he kd hd hlim h32
     ·exact xO ds n t g base v A c w hg hown hgb hb hl ht h4 hm hr he kd hd hlim (qH _ _ _ _ hd) h32
 exact xBB ds n t g base v A c w hg hown hgb hb hl ht ⟨by omega,by omega,hpl,hfl,fun h=>absurd h h3⟩ (by omega)
theorem xAD (w:World) (x y z u v:Value) (t:TypeId):∀i q,[x,y,z,u,v][i]?=some q->(w.alloc (.cells #[x,y,z,u,v] t)).cell? ⟨w.heap.size,i,none⟩=some q:=fun i q hi=>by
 rw [World.cell?_alloc_at _ _ _ _ (by simp)];simpa using hi
theorem Stp2.cell {row:Option Nat} {g:Nat} {w w':World} (h:Stp2 row g w w') {k i:Nat} (hk:k<w.heap.size) (hg:k≠g) (hr:some k≠row):w'.cell? ⟨k,i,none⟩=w.cell? ⟨k,i,none⟩:=by
 simp only [World.cell?,h.block k hk hg hr]
theorem pN (n:Int) (prev:List Ty) (d:List Int) (t:Ty) (r:List Ty):typesE n prev d (t :: r)=if (addE d n t).1=0 then (if t∈prev then 21 else typesE n (prev ++ [t]) (d ++ [(addE d n t).2]) r) else (addE d n t).1:=by
 rw [typesE,xBX];by_cases h1:(addE d n t).1=0 <;> by_cases h2:t∈prev <;> simp [h1,h2]
theorem sJ (ts:List Ty) (n:Int) (A:Option Addr) (c:Nat) (w:World) (hs:Slc 5 RTy w A c ts):
 Calls Tryz.prog 115 #[.slice A ts.length c,.int .i64 n] w fun e' w'=>e' = .returned (.int .i64 (typesC n ts))/\Below w.heap.size w w':=by
 have hle:=hs.le;have hbig:=hs.big;unfold typesC;by_cases h0:65535<ts.length
 ·rw [bD h0];clear hs;go_enter Tryz.func115,Tryz.ntmps115
  go_wp2_with fail
  go_ret;exact ⟨rfl,aZ _ _⟩
 rw [bB h0];obtain ⟨R,hR⟩:∃R,typesE n [] [] ts=R:=⟨_,rfl⟩;rw [hR];have HR:=aH hR;have HS:=aH hs;clear hR hs;go_enter Tryz.func115,Tryz.ntmps115
 go_wp2_with fail
 go_loopw [19] (fun i wr=>∃(k:Nat) (ds:List Int) (v:Value),k<=ts.length/\i = .int .i64 k/\Hid (ds.length=k)/\Hid (wr.heap[w.heap.size]?=some (.cells #[.int .i64 n,v] 223))/\Hid (wr.ownsRow (w.heap.size+1) 3 1 v ds.length (ds.map (Value.int .i64)))/\Hid (Below w.heap.size w wr)/\w.heap.size+1<=wr.heap.size/\Hid (R=typesE n (ts.take k) ds (ts.drop k))) (fun i _=>ts.length - (intOf i).toNat)
 case atStart=>
  refine ⟨0,[],.slice none 0 0,by omega,rfl,aH rfl,aH ?_,aH (World.ownsRow_nil _ _ _ _),aH ((aZ _ _).alloc (bA _) _),by simp,aH HR.out.symm⟩;exact Array.getElem?_push_size
 case round=>
  obtain ⟨k,ds,v,hk,rfl,hdl,hg,hown,hB,hsz,hr⟩:=hrel;by_cases hlt:k<ts.length
  ·have hd:=dA hlt;obtain ⟨b,o,rfl,hb,hx⟩:=HS.out.sl.at_ hlt;have htk:Hid (ts.take (k+1)=ts.take k ++ [ts[k]]):=aH (bH hlt);obtain ⟨t,ht⟩:∃t,ts[k]=t:=⟨_,rfl⟩;rw [ht] at hd hx htk;obtain ⟨r1,r2,r3,r4,A2,c2,r5,r6,r7,r8⟩:=hx;have HFL:Hid (Slc 1 RInt w A2 c2 t.flds):=aH ⟨r8,r6,r7⟩;replace r1:=(hB.out.cell (p:=⟨b,o+k * 5,none⟩) hb).trans r1;replace r2:=(hB.out.cell (p:=⟨b,o+k * 5+1,none⟩) hb).trans r2;replace r3:=(hB.out.cell (p:=⟨b,o+k * 5+2,none⟩) hb).trans r3;replace r4:=(hB.out.cell (p:=⟨b,o+k * 5+3,none⟩) hb).trans r4;replace r5:=(hB.out.cell (p:=⟨b,o+k * 5+4,none⟩) hb).trans r5;obtain ⟨W1,hW1⟩:∃W1,W1=wr.alloc (.cells #[.int .i64 t.kind,.bool t.mu,.int .i64 t.reg,.int .i64 t.elem,.slice A2 t.flds.length c2] 104):=⟨_,rfl⟩;have hBW:Below w.heap.size w W1:=by rw [hW1];exact hB.out.alloc (by omega) _
   have hBW0:Below wr.heap.size wr W1:=by rw [hW1];exact (aZ _ _).alloc (bA _) _
   have hW1s:W1.heap.size=wr.heap.size+1:=by rw [hW1];simp
   have hgW:W1.heap[w.heap.size]?=some (.cells #[.int .i64 n,v] 223):=(hBW0.block _ (by omega)).trans hg.out;have hrow:∀j,v.ownBlock=some j->w.heap.size+1<=j/\j<wr.heap.size:=fun j hj=>hown.out.lt j hj
   have HADD:=aH (xDQ ds n t w.heap.size (w.heap.size+1) v A2 c2 W1 hgW (dE hown.out hBW0) (by omega) (by omega) (by rw [hdl.out];omega) (HFL.out.keep RInt.keeps hBW));have HNEW:Hid (∀i q,[Value.int .i64 t.kind,.bool t.mu,.int .i64 t.reg,.int .i64 t.elem,.slice A2 t.flds.length c2][i]?=some q->W1.cell? ⟨wr.heap.size,i,none⟩=some q):=aH (by rw [hW1];exact xAD wr _ _ _ _ _ _);have HROW:=aH hrow;have HBW:=aH hBW;have HW1S:=aH hW1s;have HN:Hid (R=if (addE ds n t).1=0 then (if t∈ts.take k then 21 else typesE n (ts.take k ++ [t]) (ds ++ [(addE ds n t).2]) (ts.drop (k+1))) else (addE ds n t).1):=aH (by rw [hr.out,hd];exact pN _ _ _ _ _);have HFIND:=aH (fun W (hb:Below w.heap.size w W)=>wO (ts.take k) t (some ⟨b,o,none⟩) A2 c c2 W ((HS.out.takeN k).keep RTy.keeps hb) (HFL.out.keep RInt.keeps hb));rw [cO,Nat.min_eq_left hk] at HFIND
   have hcut:∀W,(Instr.slice 55 (.slice (some ⟨b,o,none⟩) ts.length c) none (some (.int .i64 (k:Int))) none).run Tryz.prog W = .ok (.slice (some ⟨b,o,none⟩) k c) W:=fun W=>by
    have:=yZ (P:=Tryz.prog) 55 104 (some ⟨b,o,none⟩) ts.length c k 5 Tryz.underlying55 Tryz.sizeOf104 (by omega) hle W;simpa [cutA,Addr.add] using this
   generalize addE ds n t=q at HADD HN;obtain ⟨er,dp⟩:=q;simp only at HN;unfold tyAgg at HADD HFIND;rw [hW1] at HADD;clear hd hr r8 hgW hrow hBW hBW0 hW1s;by_cases he:er=0
   ·subst he;rw [bD rfl] at HN;have HCUT:=aH hcut;clear hcut;go_wp2_with (go_at_call 148;refine HADD.out.mono ?_;rintro e' w2 ⟨rfl,hst,hgd⟩;have HST:=aH hst;have HGD:=aH hgd;clear hst hgd)
    have hst:=HST.out;rw [<- hW1] at hst;have hB2:Below w.heap.size w w2:=HBW.out.trans (hst.below (bA _) (fun j hj=>by have:=(HROW.out j hj).1;omega) HBW.out.size)
    have hnew:∀i q,[Value.int .i64 t.kind,.bool t.mu,.int .i64 t.reg,.int .i64 t.elem,.slice A2 t.flds.length c2][i]?=some q->w2.cell? ⟨wr.heap.size,i,none⟩=some q:=fun i q hi=>
     (hst.cell (by rw [HW1S.out];omega) (by omega) (fun e=>by have:=(HROW.out _ e.symm).2;omega)).trans (HNEW.out i q hi)
    obtain ⟨y0,y1,y2,y3,y4⟩:=aS hnew;have hcut:=HCUT.out;have hsz2:wr.heap.size+1<=w2.heap.size:=by have:=hst.size;rw [HW1S.out] at this;exact this
    have HB2:=aH hB2;have HFI:=aH (HFIND.out w2.drew hB2.drew);obtain ⟨v',hg',hown'⟩:=HGD.out (by simp);have HG':=aH hg';have HOWN':=aH hown';clear hst hnew hB2 hg' hown';have hS:w2.drew.cell? ⟨wr.heap.size,0,none⟩=some (.int .i64 t.kind)/\w2.drew.cell? ⟨wr.heap.size,1,none⟩=some (.bool t.mu)/\w2.drew.cell? ⟨wr.heap.size,2,none⟩=some (.int .i64 t.reg)/\w2.drew.cell? ⟨wr.heap.size,3,none⟩=some (.int .i64 t.elem)/\w2.drew.cell? ⟨wr.heap.size,4,none⟩=some (.slice A2 t.flds.length c2):=⟨y0,y1,y2,y3,y4⟩;refine eC (S:=fun X=>X.cell? ⟨wr.heap.size,0,none⟩=some (.int .i64 t.kind)/\X.cell? ⟨wr.heap.size,1,none⟩=some (.bool t.mu)/\X.cell? ⟨wr.heap.size,2,none⟩=some (.int .i64 t.reg)/\X.cell? ⟨wr.heap.size,3,none⟩=some (.int .i64 t.elem)/\X.cell? ⟨wr.heap.size,4,none⟩=some (.slice A2 t.flds.length c2)) (by kernel_rfl) ?_;(iterate 4 (refine dG (v:=?_) (by kernel_rfl) (fun _ _ _ h=>h) (Or.inl ⟨by rfl,?_⟩) hS ?_;rotate_left;(next=>(rintro X ⟨s0,s1,s2,s3,s4⟩;(try simp only [aL]);go_simp;rfl));simp only [aL,Act.put,aM]));(refine pL (by kernel_rfl) (fun K1 hK1=>?_);simp only [aL,Act.put,aM];rw [bD (by rfl)];go_simp);refine HFI.out.mono ?_;rintro e' w3 ⟨⟨i,rfl⟩,hb3⟩;replace hS:=(⟨cQ hb3 hS.1,cQ hb3 hS.2.1,cQ hb3 hS.2.2.1,cQ hb3 hS.2.2.2.1,cQ hb3 hS.2.2.2.2⟩:w3.cell? ⟨wr.heap.size,0,none⟩=some (.int .i64 t.kind)/\w3.cell? ⟨wr.heap.size,1,none⟩=some (.bool t.mu)/\w3.cell? ⟨wr.heap.size,2,none⟩=some (.int .i64 t.reg)/\w3.cell? ⟨wr.heap.size,3,none⟩=some (.int .i64 t.elem)/\w3.cell? ⟨wr.heap.size,4,none⟩=some (.slice A2 t.flds.length c2));refine hK1.out _ _ (fun _=>hS) ?_;(iterate 5 (refine dG (v:=?_) (by kernel_rfl) (fun _ _ _ h=>h) (Or.inl ⟨by rfl,?_⟩) hS ?_;rotate_left;(next=>(rintro X ⟨s0,s1,s2,s3,s4⟩;(try simp only [aL]);go_simp;rfl));simp only [aL,Act.put,aM]));refine eO rfl ?_;clear hS;by_cases hm:t∈ts.take k
    ·have HF:Hid (R=21):=aH (by rw [HN.out,bD hm]);have hmd:decide (t∈ts.take k)=true:=(by simp [hm]);rw [hmd];clear hm hmd HN;go_wp2_with fail
     go_ret;exact ⟨by rw [HF.out];rfl,HB2.out.drew.trans (hb3.mono HB2.out.drew.size)⟩
    ·have HF:Hid (R=typesE n (ts.take (k+1)) (ds ++ [dp]) (ts.drop (k+1))):=aH (by rw [HN.out,bB hm,htk.out]);have hmd:decide (t∈ts.take k)=false:=(by simp [hm]);rw [hmd];clear hm hmd HN;go_wp2_with fail
     go_roundw
     case rel=>
      have hb3':Below w2.heap.size w2 w3:=(aZ _ _).drew.trans hb3;have hl:(ds ++ [dp]).length=k+1:=by rw [bE,hdl.out];rfl
      exact ⟨k+1,ds ++ [dp],v',by omega,by go_num,aH hl,aH ((hb3'.block _ (by omega)).trans HG'.out),aH (dE HOWN'.out hb3'),aH (HB2.out.drew.trans (hb3.mono HB2.out.drew.size)),cA (by omega) hb3'.size,HF⟩
     case measure=>simp [intOf];omega
   ·rw [bB he] at HN;have e1:(er != 0)=true:=by simp [he]
    clear hcut;go_wp2_with (go_at_call 148;refine HADD.out.mono ?_;rintro e' w2 ⟨rfl,hst,hgd⟩;have HST:=aH hst;clear hst hgd)
    go_ret;refine ⟨by rw [HN.out];rfl,HBW.out.trans ?_⟩;rw [hW1];exact HST.out.below (bA _) (fun j hj=>by have:=(HROW.out j hj).1;omega) (by simp;omega)
  ·have HN:Hid (R=0):=aH (by rw [hr.out,bG (by omega)];rfl);clear hr hg hown;go_wp2_with fail
   go_ret;exact ⟨by rw [HN.out];rfl,hB.out⟩
end
section
open Go Go.RowKit Go.Maps
def relL (pairs:List (Int × Int)) (s:Bool) (x:Int):List Int:=if s=true then (pairs.filter (fun p=>decide (p.2=x))).map (·.1) else (pairs.filter (fun p=>decide (p.1=x))).map (·.2)
theorem uM (l:List (Int × Int)) (p:Int × Int):relL (l ++ [p])=updL (updL (relL l) false p.1 (relL l false p.1 ++ [p.2])) true p.2 (relL l true p.2 ++ [p.1]):=by
 funext s x
 cases s
 ·simp only [relL,updL,Bool.false_eq_true,if_false,false_and,true_and,List.filter_append,bV];by_cases h:x=p.1
  ·subst h;simp
  ·have:¬p.1=x:=fun e=>h e.symm
   simp [h,this]
 ·simp only [relL,updL,if_true,true_and,List.filter_append,bV];by_cases h:x=p.2
  ·subst h;simp
  ·have:¬p.2=x:=fun e=>h e.symm
   simp [h,this]
theorem kA (l:List (Int × Int)) (s:Bool) (x:Int):(relL l s x).length<=l.length:=by
 unfold relL;split <;> (rw [cH];exact List.length_filter_le _ _)
theorem mK {n:Int}:∀(l:List (Int × Int)) (q:Option (Int × Int)),pairsE n q l=0->∀p∈l,0<=p.1/\p.1<n/\0<=p.2/\p.2<n
 | [],_,_,p,hp=>by simp at hp
 | x :: r,q,h,p,hp=>by
   rw [lH] at h;by_cases h0:pairE n q x=0
   ·rw [bD h0] at h;rcases List.mem_cons.1 hp with rfl | hp
    ·unfold pairE at h0;split at h0
     ·cases h0
     ·omega
    ·exact mK r _ h p hp
   ·rw [bB h0] at h;exact absurd h h0
theorem mM {n:Int} {l:List (Int × Int)} (h:pairsC n l=0):l.length<=65535/\∀p∈l,0<=p.1/\p.1<n/\0<=p.2/\p.2<n:=by
 unfold pairsC at h;split at h
 ·cases h
 ·exact ⟨by omega,mK l _ h⟩
theorem dO {X W:World} {k:Nat} (h:X.heap[k]?=W.heap[k]?) (i:Nat):X.cell? ⟨k,i,none⟩=W.cell? ⟨k,i,none⟩:=by
 simp only [World.cell?,h]
theorem tN {w:World} {k:Nat} {a b:Value} {t:TypeId} (h:w.heap[k]?=some (.cells #[a,b] t)):w.cell? ⟨k,0,none⟩=some a/\w.cell? ⟨k,1,none⟩=some b:=by
 simp [World.cell?,h]
theorem gY {w:World} {k:Nat} {a b c:Value} {t:TypeId} (h:w.heap[k]?=some (.cells #[a,b,c] t)):w.cell? ⟨k,0,none⟩=some a/\w.cell? ⟨k,1,none⟩=some b/\w.cell? ⟨k,2,none⟩=some c:=by
 simp [World.cell?,h]
theorem kK (X:World) (o:Obj) (k:Nat) (hk:k=X.heap.size):(X.alloc o).heap[k]?=some o:=by
 subst hk;exact Array.getElem?_push_size
def mapsAt (k:Nat) (s:Bool):Nat:=if s=true then k+1 else k
theorem nY {P:Program} {o:Oper} {a:Act} {w:World} {K:Act->World->Prop} {Q:Exit->Act->World->Prop} (m x v:Operand) (t:TypeId) (ho:o.op = .mapUpdate t m x v) {b:Nat} {key val:Value} (hm:a.eval m = .map (some b)) (hx:a.eval x=key) (hv:a.eval v=val)
 {w':World} (hrun:(Instr.mapUpdate t (.map (some b)) key val).run P w = .ok () w') (h:K (a.put o.dst undef) w'):o.wp P a w K Q:=by
 unfold Oper.wp;simp [execOp,ho,hm,hx,hv,hrun,Result.andThen];exact h
end
section
open Go Go.RowKit
inductive Rch (pairs:List (Int × Int)):Int->Int->Prop
 | refl (a:Int):Rch pairs a a
 | step {a x y:Int}:Rch pairs a x->(x,y)∈pairs->Rch pairs a y
theorem Rch.trans {pairs:List (Int × Int)} {a b c:Int} (h:Rch pairs a b) (h2:Rch pairs b c):Rch pairs a c:=by
 induction h2 with
 | refl=>exact h
 | step _ hp ih=>exact .step ih hp
theorem Rch.one {pairs:List (Int × Int)} {x y:Int} (h:(x,y)∈pairs):Rch pairs x y:= .step (.refl x) h
theorem Rch.closed {pairs:List (Int × Int)} {S:Int->Prop} (hc:∀x y,S x->(x,y)∈pairs->S y) {a b:Int} (h:Rch pairs a b) (ha:S a):S b:=by
 induction h with
 | refl=>exact ha
 | step _ hp ih=>exact hc _ _ ih hp
theorem dY:∀(n:Nat) (l:List Int),l.Nodup->(∀x∈l,0<=x/\x<n)->l.length<=n
 | 0,l,_,h=>by
   cases l with
   | nil=>simp
   | cons x r=>have:=h x (by simp);omega
 | n+1,l,hn,h=>by
   have h1:=dY n (l.erase (n:Int)) (hn.erase _) (fun x hx=>by
    have hm:=(hn.mem_erase_iff).1 hx;have:=h x hm.2;have:=hm.1
    omega)
   rw [List.length_erase] at h1;split at h1 <;> omega
theorem sX (pairs:List (Int × Int)) (x:Int):∀(set:List Int),∃new,nextR pairs x set=set ++ new/\(∀y∈new,(x,y)∈pairs)/\(set.Nodup->(set ++ new).Nodup)/\∀y,(x,y)∈pairs->y∈set ++ new:=by
 unfold nextR;induction pairs with
 | nil=>exact fun set=>⟨[],by simp,by simp,by simp,by simp⟩
 | cons p r ih=>
   intro set;obtain ⟨p1,p2⟩:=p;rw [List.foldl_cons];by_cases hp:p1=x/\p2∉set
   ·rw [bD hp];obtain ⟨new,h1,h2,h3,h4⟩:=ih (set ++ [p2]);refine ⟨p2 :: new,by rw [h1];simp,?_,?_,?_⟩
    ·intro y hy;rcases List.mem_cons.1 hy with rfl | hy
     ·rw [<- hp.1];exact List.mem_cons_self
     ·exact List.mem_cons_of_mem _ (h2 y hy)
    ·intro hn
     have:(set ++ [p2]).Nodup:=by
      rw [List.nodup_append];refine ⟨hn,by simp,fun a ha b hb=>?_⟩;rw [bU] at hb;subst hb;exact fun e=>hp.2 (e ▸ ha)
     have:=h3 this;simpa using this
    ·intro y hy;rcases List.mem_cons.1 hy with he | hy
     ·injection he with _ he
      subst he;simp
     ·have:=h4 y hy;simpa using this
   ·rw [bB hp];obtain ⟨new,h1,h2,h3,h4⟩:=ih set;refine ⟨new,h1,fun y hy=>List.mem_cons_of_mem _ (h2 y hy),h3,fun y hy=>?_⟩;rcases List.mem_cons.1 hy with he | hy
    ·injection he with e1 e2
     subst e1 e2;by_cases hm:y∈set
     ·exact List.mem_append_left _ hm
     ·exact absurd ⟨rfl,hm⟩ hp
    ·exact h4 y hy
theorem oR {pairs:List (Int × Int)} {n:Nat} (hr:∀p∈pairs,0<=p.1/\p.1<(n:Int)/\0<=p.2/\p.2<(n:Int)) (b:Int):∀(f:Nat) (set:List Int) (i:Nat),(∀x∈set,0<=x/\x<(n:Int))->set.Nodup->i<=set.length->n<f+i->
 (∀j x y,j<i->set[j]?=some x->(x,y)∈pairs->y∈set)->(∀j x,j<i->set[j]?=some x->x≠b)->(outF pairs b f set i=true↔∃z∈set,Rch pairs z b)
 | 0,set,i,h1,h2,h3,h4,_,_=>by
   have:=dY n set h2 h1;omega
 | f+1,set,i,h1,h2,h3,h4,h5,h6=>by
   rw [outF];cases hx:set[i]? with
   | none=>
     have hi:set.length<=i:=(by simpa using hx);constructor
     ·intro h;cases h
     ·rintro ⟨z,hz,hzb⟩
      have hb:b∈set:=Rch.closed (S:=fun x=>x∈set) (fun x y hxm hp=>by
       obtain ⟨j,hj,he⟩:=List.mem_iff_getElem.1 hxm
       exact h5 j x y (by omega) (by rw [bF hj,he]) hp) hzb hz
      obtain ⟨j,hj,he⟩:=List.mem_iff_getElem.1 hb;exact absurd rfl (h6 j b (by omega) (by rw [bF hj,he]))
   | some x=>
     have hxm:x∈set:=List.mem_of_getElem? hx;simp only;by_cases hxb:x=b
     ·rw [bD hxb];subst hxb;exact ⟨fun _=>⟨x,hxm,.refl x⟩,fun _=>rfl⟩
     ·rw [bB hxb];obtain ⟨new,n1,n2,n3,n4⟩:=sX pairs x set;rw [n1];have hi:i<set.length:=(List.getElem?_eq_some_iff.1 hx).1;have hold:∀j u,j<set.length->((set ++ new)[j]?=some u↔set[j]?=some u):=fun j u hj=>by rw [List.getElem?_append_left hj]
      have g1:∀y∈set ++ new,0<=y/\y<(n:Int):=fun y hy=>by
       rcases List.mem_append.1 hy with hy | hy
       ·exact h1 y hy
       ·have:=hr _ (n2 y hy);exact ⟨this.2.2.1,this.2.2.2⟩
      have g2:∀j u y,j<i+1->(set ++ new)[j]?=some u->(u,y)∈pairs->y∈set ++ new:=by
       intro j u y hj hu hp;rw [hold j u (by omega)] at hu;rcases Nat.lt_or_ge j i with hji | hji
       ·exact List.mem_append_left _ (h5 j u y hji hu hp)
       ·have:j=i:=by omega
        subst this;rw [hx] at hu;injection hu with hu
        subst hu;exact n4 y hp
      have g3:∀j u,j<i+1->(set ++ new)[j]?=some u->u≠b:=by
       intro j u hj hu;rw [hold j u (by omega)] at hu;rcases Nat.lt_or_ge j i with hji | hji
       ·exact h6 j u hji hu
       ·have:j=i:=by omega
        subst this;rw [hx] at hu;injection hu with hu
        subst hu;exact hxb
      rw [oR hr b f (set ++ new) (i+1) g1 (n3 h2) (by rw [bE];omega) (by omega) g2 g3];constructor
      ·rintro ⟨z,hz,hzb⟩;rcases List.mem_append.1 hz with hz | hz
       ·exact ⟨z,hz,hzb⟩
       ·exact ⟨x,hxm,(Rch.one (n2 z hz)).trans hzb⟩
      ·rintro ⟨z,hz,hzb⟩;exact ⟨z,List.mem_append_left _ hz,hzb⟩
theorem zF {pairs:List (Int × Int)} {n:Nat} (hr:∀p∈pairs,0<=p.1/\p.1<(n:Int)/\0<=p.2/\p.2<(n:Int)) {a b:Int} (ha:0<=a) (ha2:a<n) (hb:0<=b) (hb2:b<n):
 outB pairs n a b=true↔Rch pairs a b:=by
 unfold outB;rw [bB (by omega)];rw [oR hr b _ [a] 0 (by simp;omega) (by simp) (by simp) (by simp) (by intro j x y hj;omega) (by intro j x hj;omega)];simp
theorem gU {α : Type} {R : α -> α -> Prop} {l:List α} {x : α} (h:l.Pairwise R) (hx:∀y∈l,R y x):(l ++ [x]).Pairwise R:=
 List.pairwise_append.2 ⟨h,List.pairwise_singleton _ _,fun a ha b hb=>by rw [List.mem_singleton.1 hb];exact hx a ha⟩
theorem Srt.push {l:List Int} {P:Int->Prop} {q:Int} (h:Srt l P) (hP:∀z,P z->z<q):Srt (l ++ [q]) (fun z=>P z\/z=q):=
 ⟨gU h.1 (fun y hy=>hP y ((h.2 y).1 hy)),fun z=>by simp [h.2]⟩
theorem Srt.zero {P:Int->Prop}:Srt [] (fun z=>P z/\0<=z/\z<0):=srt_nil.iff fun z=>⟨fun h=>h.elim,fun h=>by omega⟩
theorem Srt.len {l:List Int} {P:Int->Prop} (h:Srt l P) {n:Nat} (hP:∀z,P z->0<=z/\z<(n:Int)):l.length<=n:=
 dY n l h.nodup (fun x hx=>hP x ((h.2 x).1 hx))
def lt2 (a b:Int × Int):Prop:=a.1<b.1\/(a.1=b.1/\a.2<b.2)
theorem iE {a b:Int × Int} (h:lt2 a b) (k:lt2 b a):False:=by unfold lt2 at h k;omega
theorem lt2_tri (a b:Int × Int):lt2 a b\/a=b\/lt2 b a:=by
 obtain ⟨a1,a2⟩:=a;obtain ⟨b1,b2⟩:=b;unfold lt2;simp only [Prod.mk.injEq];omega
def Srt2 (s:List (Int × Int)) (P:Int × Int->Prop):Prop:=s.Pairwise lt2/\∀x,x∈s↔P x
theorem oF:∀{s t:List (Int × Int)},s.Pairwise lt2->t.Pairwise lt2->(∀x,x∈s↔x∈t)->s=t
 | [],[],_,_,_=>rfl
 | [],y :: t,_,_,h=>absurd ((h y).2 (by simp)) (by simp)
 | x :: s,[],_,_,h=>absurd ((h x).1 (by simp)) (by simp)
 | x :: s,y :: t,h1,h2,h=>by
   rw [List.pairwise_cons] at h1 h2
   have hxy:x=y:=by
    rcases List.mem_cons.1 ((h x).1 (by simp)) with e | e
    ·exact e
    ·rcases List.mem_cons.1 ((h y).2 (by simp)) with e' | e'
     ·exact e'.symm
     ·exact (iE (h1.1 y e') (h2.1 x e)).elim
   subst hxy;rw [oF h1.2 h2.2 (fun z=>?_)];constructor
   ·intro hz;rcases List.mem_cons.1 ((h z).1 (by simp [hz])) with e | e
    ·subst e;exact (iE (h1.1 z hz) (h1.1 z hz)).elim
    ·exact e
   ·intro hz;rcases List.mem_cons.1 ((h z).2 (by simp [hz])) with e | e
    ·subst e;exact (iE (h2.1 z hz) (h2.1 z hz)).elim
    ·exact e
theorem Srt2.uniq {s t:List (Int × Int)} {P:Int × Int->Prop} (h:Srt2 s P) (k:Srt2 t P):s=t:=oF h.1 k.1 (fun x=>(h.2 x).trans (k.2 x).symm)
theorem Srt2.iff {s:List (Int × Int)} {P Q:Int × Int->Prop} (h:Srt2 s P) (e:∀x,P x↔Q x):Srt2 s Q:=⟨h.1,fun x=>(h.2 x).trans (e x)⟩
theorem Srt2.nil {P:Int × Int->Prop} (h:∀x,¬P x):Srt2 [] P:=⟨List.Pairwise.nil,fun x=>by simp [h]⟩
theorem Srt2.push {l:List (Int × Int)} {P:Int × Int->Prop} {q:Int × Int} (h:Srt2 l P) (hP:∀z,P z->lt2 z q):Srt2 (l ++ [q]) (fun z=>P z\/z=q):=
 ⟨gU h.1 (fun y hy=>hP y ((h.2 y).1 hy)),fun z=>by simp [h.2]⟩
inductive Men (ts:List Ty) (r:Int):Int->Prop
 | here {i:Int} {t:Ty}:0<=i->ts[i.toNat]?=some t->t.kind=3->t.reg=r->Men ts r i
 | elem {i:Int} {t:Ty}:0<=i->ts[i.toNat]?=some t->t.kind=3->Men ts r t.elem->Men ts r i
 | fld {i k:Int} {t:Ty}:0<=i->ts[i.toNat]?=some t->k∈t.flds->Men ts r k->Men ts r i
def prtT (t:Ty):List Int:=if t.kind=3 then [t.elem] else t.flds
inductive Rt (ts:List Ty):Int->Int->Prop
 | refl (i:Int):Rt ts i i
 | step {i k j:Int} {t:Ty}:0<=i->ts[i.toNat]?=some t->k∈prtT t->Rt ts k j->Rt ts i j
theorem oX {ts:List Ty} (hf:∀t∈ts,t.kind≠4->t.flds=[]) {r i:Int}:Men ts r i↔∃k t,Rt ts i k/\0<=k/\ts[k.toNat]?=some t/\t.kind=3/\t.reg=r:=by
 constructor
 ·intro h;induction h with
  | here h0 h1 h2 h3=>exact ⟨_,_,.refl _,h0,h1,h2,h3⟩
  | elem h0 h1 h2 _ ih=>
    obtain ⟨k,t',g1,g2⟩:=ih;exact ⟨k,t',.step h0 h1 (by unfold prtT;rw [bD h2];simp) g1,g2⟩
  | fld h0 h1 h2 _ ih=>
    obtain ⟨k,t',g1,g2⟩:=ih;rename_i t _
    have h4:t.kind=4:=by
     by_cases e:t.kind=4
     ·exact e
     ·have:=hf t (List.mem_of_getElem? h1) e;rw [this] at h2;cases h2
    exact ⟨k,t',.step h0 h1 (by unfold prtT;rw [bB (by omega)];exact h2) g1,g2⟩
 ·rintro ⟨k,t,h,h0,h1,h2,h3⟩;induction h with
  | refl i=>exact .here h0 h1 h2 h3
  | step g0 g1 g2 _ ih=>
    have:=ih h0 h1;unfold prtT at g2;split at g2
    ·rename_i e;rw [bU] at g2;subst g2;exact .elem g0 g1 e this
    ·exact .fld g0 g1 g2 this
theorem Rt.trans {ts:List Ty} {i j k:Int} (h:Rt ts i j):Rt ts j k->Rt ts i k:=by
 induction h with
 | refl=>exact fun h=>h
 | step h0 h1 h2 _ ih=>exact fun h=> .step h0 h1 h2 (ih h)
theorem Rt.closed {ts:List Ty} {S:Int->Prop} (h:∀i t k,S i->0<=i->ts[i.toNat]?=some t->k∈prtT t->S k) {i j:Int} (hr:Rt ts i j):S i->S j:=by
 induction hr with
 | refl=>exact fun h=>h
 | step h0 h1 h2 _ ih=>exact fun hs=>ih (h _ _ _ hs h0 h1 h2)
structure Wk (bs:List Blk) (U:List Int) (L:Int->List Int) (wk:List (Int × Int)) (ex:Int->Int->Int->Prop):Prop where
 snd:∀p x,x∈L p->Lv bs x p
 wsnd:∀e∈wk,Lv bs e.2 e.1
 cov:∀p x,x∈usP bs p->x∈L p\/(p,x)∈wk
 cls:∀q x p,x∈L q->folP bs p q->dfP bs p≠some x->ex p q x\/x∈L p\/(p,x)∈wk
 nd:∀p,(L p).Nodup
 un:∀p,∀x∈L p,x∈U
def addL (L:Int->List Int) (p x:Int):Int->List Int:=fun q=>if q=p then x :: L p else L q
theorem Wk.start {bs:List Blk} {U:List Int} {wk:List (Int × Int)} (h1:∀e∈wk,e.2∈usP bs e.1) (h2:∀p x,x∈usP bs p->(p,x)∈wk):Wk bs U (fun _=>[]) wk (fun _ _ _=>False):=
 ⟨fun _ _ h=>absurd h List.not_mem_nil,fun e he=>Lv.use (h1 e he),fun p x h=>Or.inr (h2 p x h),fun _ _ _ h=>absurd h List.not_mem_nil,fun _=>List.nodup_nil,fun _ _ h=>absurd h List.not_mem_nil⟩
theorem Wk.known {bs:List Blk} {U:List Int} {L:Int->List Int} {wk:List (Int × Int)} {p x:Int} (h:Wk bs U L (wk ++ [(p,x)]) (fun _ _ _=>False)) (hx:x∈L p):Wk bs U L wk (fun _ _ _=>False):=by
 have key:∀p' x',x'∈L p'\/(p',x')∈wk ++ [(p,x)]->x'∈L p'\/(p',x')∈wk:=fun p' x' hh=>by
  rcases hh with hh | hh
  ·exact .inl hh
  ·rcases List.mem_append.1 hh with hh | hh
   ·exact .inr hh
   ·rw [bU,Prod.mk.injEq] at hh;obtain ⟨rfl,rfl⟩:=hh;exact .inl hx
 exact ⟨h.snd,fun e he=>h.wsnd e (by simp [he]),fun p' x' hu=>key _ _ (h.cov p' x' hu),fun q x' p' a b c=> .inr (key _ _ ((h.cls q x' p' a b c).elim False.elim id)),h.nd,h.un⟩
theorem Wk.new {bs:List Blk} {U:List Int} {L:Int->List Int} {wk:List (Int × Int)} {p x:Int} (h:Wk bs U L (wk ++ [(p,x)]) (fun _ _ _=>False)) (hx:x∉L p) (hU:x∈U):Wk bs U (addL L p x) wk (fun _ q y=>q=p/\y=x):=by
 have hl:Lv bs x p:=h.wsnd (p,x) (by simp)
 have key:∀p' x',x'∈L p'\/(p',x')∈wk ++ [(p,x)]->x'∈addL L p x p'\/(p',x')∈wk:=fun p' x' hh=>by
  rcases hh with hh | hh
  ·refine .inl ?_;unfold addL;split
   ·rename_i e;subst e;exact List.mem_cons_of_mem _ hh
   ·exact hh
  ·rcases List.mem_append.1 hh with hh | hh
   ·exact .inr hh
   ·rw [bU,Prod.mk.injEq] at hh;obtain ⟨rfl,rfl⟩:=hh;refine .inl ?_;unfold addL;rw [bD rfl];simp
 have mem:∀q y,y∈addL L p x q->(q=p/\y=x)\/y∈L q:=fun q y hy=>by
  unfold addL at hy;split at hy
  ·rename_i e;subst e;rcases List.mem_cons.1 hy with e | hy
   ·exact .inl ⟨rfl,e⟩
   ·exact .inr hy
  ·exact .inr hy
 refine ⟨fun q y hy=>?_,fun e he=>h.wsnd e (by simp [he]),fun p' x' hu=>key _ _ (h.cov p' x' hu),fun q y p' hy a b=>?_,fun q=>?_,fun q y hy=>?_⟩
 ·rcases mem q y hy with ⟨rfl,rfl⟩ | hy
  ·exact hl
  ·exact h.snd q y hy
 ·rcases mem q y hy with e | hy
  ·exact .inl e
  ·exact .inr (key _ _ ((h.cls q y p' hy a b).elim False.elim id))
 ·unfold addL;split
  ·exact List.nodup_cons.2 ⟨hx,h.nd p⟩
  ·exact h.nd q
 ·rcases mem q y hy with ⟨rfl,rfl⟩ | hy
  ·exact hU
  ·exact h.un q y hy
theorem Wk.push {bs:List Blk} {U:List Int} {L:Int->List Int} {wk:List (Int × Int)} {p x q:Int} {E E':Int->Prop} (h:Wk bs U L wk (fun p' q' y=>(q'=p/\y=x)/\E p')) (hx:Lv bs x p) (hq:folP bs q p) (hd:dfP bs q≠some x) (hE:∀z,E z->z=q\/E' z):
 Wk bs U L (wk ++ [(q,x)]) (fun p' q' y=>(q'=p/\y=x)/\E' p'):=
 ⟨h.snd,fun e he=>(List.mem_append.1 he).elim (h.wsnd e) (fun he=>by rw [List.mem_singleton.1 he];exact .step hq hd hx),
  fun p' x' hu=>(h.cov p' x' hu).imp id (fun g=>by simp [g]),
  fun q' y p' a b c=>by
   rcases h.cls q' y p' a b c with ⟨⟨rfl,rfl⟩,e2⟩ | e | e
   ·rcases hE p' e2 with rfl | e3
    ·exact .inr (.inr (by simp))
    ·exact .inl ⟨⟨rfl,rfl⟩,e3⟩
   ·exact .inr (.inl e)
   ·exact .inr (.inr (by simp [e])),h.nd,h.un⟩
theorem Wk.pass {bs:List Blk} {U:List Int} {L:Int->List Int} {wk:List (Int × Int)} {p x q:Int} {E E':Int->Prop} (h:Wk bs U L wk (fun p' q' y=>(q'=p/\y=x)/\E p')) (hd:dfP bs q=some x) (hE:∀z,E z->z=q\/E' z):
 Wk bs U L wk (fun p' q' y=>(q'=p/\y=x)/\E' p'):=
 ⟨h.snd,h.wsnd,h.cov,fun q' y p' a b c=>by
   rcases h.cls q' y p' a b c with ⟨⟨rfl,rfl⟩,e2⟩ | e | e
   ·rcases hE p' e2 with rfl | e3
    ·exact absurd hd c
    ·exact .inl ⟨⟨rfl,rfl⟩,e3⟩
   ·exact .inr (.inl e)
   ·exact .inr (.inr e),h.nd,h.un⟩
theorem Wk.ex {bs:List Blk} {U:List Int} {L:Int->List Int} {wk:List (Int × Int)} {ex ex':Int->Int->Int->Prop} (h:Wk bs U L wk ex) (he:∀p q x,folP bs p q->ex p q x->ex' p q x):Wk bs U L wk ex':=
 ⟨h.snd,h.wsnd,h.cov,fun q x p a b c=>(h.cls q x p a b c).imp (he p q x b) id,h.nd,h.un⟩
theorem Wk.done {bs:List Blk} {U:List Int} {L:Int->List Int} (h:Wk bs U L [] (fun _ _ _=>False)) (p x:Int):x∈L p↔Lv bs x p:=
 ⟨h.snd p x,fun hl=>Lv.least (L:=fun p x=>x∈L p) (fun p x hu=>(h.cov p x hu).elim id (fun g=>by cases g)) (fun p q x a b c=>((h.cls q x p a b c).elim False.elim id).elim id (fun g=>by cases g)) hl⟩
def totL (L:Int->List Int):Nat->Nat
 | 0=>0
 | n+1=>totL L n+(L n).length
theorem qS {L:Int->List Int} {p x:Int}:∀{n:Nat},0<=p->p<n->totL (addL L p x) n=totL L n+1
 | 0,h0,h1=>by omega
 | n+1,h0,h1=>by
   unfold totL;by_cases e:p=n
   ·subst e
    have:∀m:Nat,m<=n->totL (addL L n x) m=totL L m:=by
     intro m;induction m with
     | zero=>intro _;rfl
     | succ m ih=>
       intro hm;unfold totL;rw [ih (by omega)];unfold addL;rw [bB (by omega)]
    rw [this n (bA _)];unfold addL;rw [bD rfl];simp;omega
   ·rw [qS h0 (by omega)];unfold addL;rw [bB (fun e'=>e e'.symm)];omega
theorem tS {L:Int->List Int} {m:Nat} (h:∀p,(L p).length<=m):∀n,totL L n<=n * m
 | 0=>by simp [totL]
 | n+1=>by
   unfold totL;have:=tS h n;have:=h n;rw [Nat.succ_mul];omega
theorem tY {α : Type} [DecidableEq α]:∀{U l:List α},l.Nodup->(∀x∈l,x∈U)->l.length<=U.length
 | [],l,_,h=>by cases l with
   | nil=>simp
   | cons x r=>exact absurd (h x (by simp)) (by simp)
 | u :: U,l,hn,h=>by
   have h1:=tY (U:=U) (hn.erase u) (fun x hx=>by
    rw [hn.mem_erase_iff] at hx
    exact (List.mem_cons.1 (h x hx.2)).elim (fun e=>absurd e hx.1) id)
   have h2:l.length<=(l.erase u).length+1:=by
    rw [List.length_erase];split <;> omega
   simp only [bN];omega
theorem Wk.tot {bs:List Blk} {U:List Int} {L:Int->List Int} {wk:List (Int × Int)} {ex:Int->Int->Int->Prop} (h:Wk bs U L wk ex) (n:Nat):totL L n<=n * U.length:=
 tS (fun p=>tY (h.nd p) (h.un p)) n
end
end Go.Proofs.YtkaigkfbkpinlaaGreatDoor
