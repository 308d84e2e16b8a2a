/-
  Parts of the proof: V6 V7 V8 V9 W13 V10 V15 V16.
-/
import Derived.Test.YtcfchohkmkilpaaGreatDoorLP0
import Derived.Test.YtcfchohkmkilpaaGreatDoorLP3
import Derived.Test.YtcfchohkmkilpaaGreatDoorLP2
import Derived.Test.YtcfchohkmkilpaaGreatDoorLP1
namespace Go.Proofs.YtcfchohkmkilpaaGreatDoor
set_option maxRecDepth 100000
set_option maxHeartbeats 16000000
section
open Go Go.RowKit
structure Stp2 (row:Option Nat) (g:Nat) (w w':World):Prop where
 os:w'.os=w.os
 tape:w'.tape=w.tape
 output:w'.output=w.output
 size:w.heap.size<=w'.heap.size
 block:∀k,k<w.heap.size->k≠g->some k≠row->w'.heap[k]?=w.heap[k]?
theorem Stp2.of_below {row:Option Nat} {g:Nat} {w w':World} (h:Below w.heap.size w w'):Stp2 row g w w':=⟨h.os,h.tape,h.output,h.size,fun k hk _ _=>h.block k hk⟩
theorem Stp2.below {row:Option Nat} {g B:Nat} {a b:World} (h:Stp2 row g a b) (hg:B<=g) (hr:∀k,row=some k->B<=k) (hB:B<=a.heap.size):Below B a b:=
 ⟨h.os,h.tape,h.output,h.size,fun k hk=>h.block k (by omega) (by omega) (fun e=>by have:=hr k e.symm;omega)⟩
theorem Stp2.set {row:Option Nat} {g:Nat} {a b:World} (h:Stp2 row g a b) (o:Nat) (v:Value):Stp2 row g a (b.setCell ⟨g,o,none⟩ v):=
 ⟨h.os,h.tape,h.output,by simpa [World.setCell] using h.size,fun k hk hg hr=>(bH b ⟨g,o,none⟩ v k hg).trans (h.block k hk hg hr)⟩
theorem Stp2.grown {g:Nat} {a b c:World} {row:Option Nat} (h:Below a.heap.size a b) (hg:b.grownBy c row):Stp2 row g a c:=
 ⟨hg.os.trans h.os,hg.tape.trans h.tape,hg.output.trans h.output,bX h.size hg.size,fun k hk _ hr=>(hg.block k (bN hk h.size) hr).trans (h.block k hk)⟩
theorem wC {w:World} {k:Nat} {a b:Value} {t:TypeId} (x:Value) (h:w.heap[k]?=some (.cells #[a,b] t)):(w.setCell ⟨k,1,none⟩ x).heap[k]?=some (.cells #[a,x] t):=by
 simp [World.setCell,Array.getElem?_modify,h]
theorem eE {w:World} {k:Nat} {a b:Value} {t:TypeId} (h:w.heap[k]?=some (.cells #[a,b] t)):w.cell? ⟨k,0,none⟩=some a/\w.cell? ⟨k,1,none⟩=some b/\w.frozen? ⟨k,0,none⟩=false/\w.frozen? ⟨k,1,none⟩=false:=by
 simp [World.cell?,World.frozen?,h]
def addE (d:List Int) (n:Int) (t:Ty):Int × Int:=
 if t.kind<0\/4<t.kind then (14,0)
 else if (t.kind≠3/\(t.mu=true\/t.reg≠0\/t.elem≠0))\/(t.kind≠4/\0<t.flds.length) then (2,0)
 else if t.kind=3/\(t.reg<0\/n<=t.reg) then (3,0)
 else match depF d 0 (if t.kind=3 then [t.elem] else t.flds) with
  | none=>(3,0)
  | some k=>
    if t.kind=4/\(t.flds.length=0\/65535<t.flds.length) then (15,0)
    else if 32<=k then (19,0)
    else (0,k+1)
theorem xCH (prev:List Ty) (d:List Int) (n:Int) (t:Ty):tyE prev d n t=if (addE d n t).1=0/\t∈prev then (21,0) else addE d n t:=by
 unfold tyE addE;generalize depF d 0 (if t.kind=3 then [t.elem] else t.flds)=o;split
 ·simp
 split
 ·simp
 split
 ·simp
 cases o with
 | none=>simp
 | some k=>
   simp only;split
   ·simp
   split
   ·simp
   split
   ·rw [bA (by simpa)]
   ·rw [aZ (by simpa)]
def addP (base g:Nat) (row:Option Nat) (n:Int) (ds:List Int) (r:Int × Int) (w:World) (e':Ending) (w':World):Prop:=
 e' = .returned (.int .i64 r.1)/\Stp2 row g w w'/\(r.1=0->∃v',w'.heap[g]?=some (.cells #[.int .i64 n,v'] 201)/\w'.ownsRow base 3 1 v' (ds ++ [r.2]).length ((ds ++ [r.2]).map (Value.int .i64)))
theorem eZ {base g:Nat} {row:Option Nat} {n:Int} {ds:List Int} {q:Int} {w:World} {w':World} (h:Stp2 row g w w') (hq:q≠0):addP base g row n ds (q,0) w (.returned (.int .i64 q)) w':=⟨rfl,h,fun h=>absurd h hq⟩
theorem xBD (ds:List Int) (n:Int) (t:Ty) (g base:Nat) (v:Value) (A:Option Addr) (c:Nat) (w:World) (_hg:w.heap[g]?=some (.cells #[.int .i64 n,v] 201)) (_hown:w.ownsRow base 3 1 v ds.length (ds.map (Value.int .i64))) (_hgb:g<base) (hb:base<=w.heap.size) (_hl:ds.length<=65535) (_ht:Slc 1 RInt w A c t.flds) (hbad:t.kind<0\/4<t.kind):
 Calls Tryz.prog 146 #[.pointer (some ⟨g,0,none⟩),tyAgg t A c] w fun e' w'=>addP base g v.ownBlock n ds (addE ds n t) w e' w':=by
 have HF:Hid (addE ds n t=(14,0)):=aF (by unfold addE;rw [bA hbad]);have e0:(t.kind == 0)=false:=by simp;omega
 have e1:(t.kind == 1)=false:=by simp;omega
 have e2:(t.kind == 2)=false:=by simp;omega
 have e3:(t.kind == 3)=false:=by simp;omega
 have e4:(t.kind == 4)=false:=by simp;omega
 have HB:=aF hb;rw [HF.out];clear _hg _hown _ht hbad;unfold tyAgg;go_enter Tryz.func146,Tryz.ntmps146
 go_wp2_with fail
 go_ret;exact eZ (Stp2.of_below ((aX _ _).alloc (aY _) _)) (by omega)
theorem xBE (ds:List Int) (n:Int) (t:Ty) (g base:Nat) (v:Value) (A:Option Addr) (c:Nat) (w:World) (_hg:w.heap[g]?=some (.cells #[.int .i64 n,v] 201)) (_hown:w.ownsRow base 3 1 v ds.length (ds.map (Value.int .i64))) (_hgb:g<base) (hb:base<=w.heap.size) (_hl:ds.length<=65535) (_ht:Slc 1 RInt w A c t.flds) (hk0:0<=t.kind) (hk4:t.kind<=4) (hbad:(t.kind≠3/\(t.mu=true\/t.reg≠0\/t.elem≠0))\/(t.kind≠4/\0<t.flds.length)):
 Calls Tryz.prog 146 #[.pointer (some ⟨g,0,none⟩),tyAgg t A c] w fun e' w'=>addP base g v.ownBlock n ds (addE ds n t) w e' w':=by
 have HF:Hid (addE ds n t=(2,0)):=aF (by unfold addE;rw [aZ (by omega),bA hbad]);have HB:=aF hb;rw [HF.out];clear _hown _ht _hg;unfold tyAgg;obtain ⟨k,mu,rg,el,fl⟩:=t;simp only at *;rcases (show k=0\/k=1\/k=2\/k=3\/k=4 by omega) with rfl | rfl | rfl | rfl | rfl
 all_goals
  go_enter Tryz.func146,Tryz.ntmps146
  go_wp2_with fail
  all_goals first
   | (go_ret;exact eZ (Stp2.of_below ((aX _ _).alloc (aY _) _)) (by omega))
   | (exfalso;clear HF HB;grind)
theorem gM {ds l:List Int} {o:Option Int} (h:depF ds 0 l=o):depP ds l=depQ o:=by unfold depP;rw [h]
structure Shape (n:Int) (t:Ty):Prop where
 k0:0<=t.kind
 k4:t.kind<=4
 plain:t.kind≠3->t.mu=false/\t.reg=0/\t.elem=0
 flat:t.kind≠4->t.flds=[]
 reg:t.kind=3->0<=t.reg/\t.reg<n
theorem xEB (ds:List Int) (n:Int) (t:Ty) (g base:Nat) (v:Value) (A:Option Addr) (c:Nat) (w:World) (hg:w.heap[g]?=some (.cells #[.int .i64 n,v] 201)) (_hown:w.ownsRow base 3 1 v ds.length (ds.map (Value.int .i64))) (hgb:g<base) (hb:base<=w.heap.size) (_hl:ds.length<=65535) (_ht:Slc 1 RInt w A c t.flds) (hk:t.kind=3) (hf:t.flds=[]) (hbad:t.reg<0\/n<=t.reg):
 Calls Tryz.prog 146 #[.pointer (some ⟨g,0,none⟩),tyAgg t A c] w fun e' w'=>addP base g v.ownBlock n ds (addE ds n t) w e' w':=by
 have HF:Hid (addE ds n t=(3,0)):=aF (by unfold addE;rw [aZ (by omega),aZ (by simp [hk,hf]),bA ⟨hk,hbad⟩]);have HB:=aF hb;obtain ⟨x0,x1,f0,f1⟩:=eE hg;rw [HF.out];clear _hown _ht hg;unfold tyAgg;obtain ⟨k,mu,rg,el,fl⟩:=t;simp only at *;subst hk hf;simp only [bO];have HBD:Hid (∀m,Below w.heap.size w ((w.alloc (.cells #[.int .i64 3,.bool mu,.int .i64 rg,.int .i64 el,.slice A 0 c] 65)).drewN m)):=aF (fun m=>aG ((aX _ _).alloc (aY _) _) _);by_cases hr:rg<0
 ·have e1:decide (rg<0)=true:=by simp [hr]
  go_enter Tryz.func146,Tryz.ntmps146
  go_wp2_with fail
  go_quiet (fail)
  go_wp2_with fail
  go_ret;exact eZ (Stp2.of_below (HBD.out _)) (by omega)
 ·have e1:decide (rg<0)=false:=by simp;omega
  have e2:n<=rg:=by omega
  have hge:g<w.heap.size:=by omega
  go_enter Tryz.func146,Tryz.ntmps146
  go_wp2_with fail
  go_quiet (fail)
  go_wp2_with fail
  go_ret;exact eZ (Stp2.of_below (HBD.out _)) (by omega)
theorem xCR (W:World) (x:Int) (T:TypeId):Slc 1 RInt (W.alloc (.cells #[.int .i64 x] T)) (some ⟨W.heap.size,0,none⟩) 1 [x]:=by
 refine ⟨fun _=>⟨_,_,rfl,by simp,fun i y hi=>?_⟩,by simp,by omega⟩;cases i with
 | zero=>
   simp at hi;subst hi;show (W.alloc _).cell? ⟨W.heap.size,0,none⟩=_;rw [World.cell?_alloc_at _ _ _ _ (by simp)];rfl
 | succ i=>simp at hi
theorem fN (W:World) (x:Int) (T:TypeId) (k:Nat) (hk:k=W.heap.size):Slc 1 RInt (W.alloc (.cells #[.int .i64 x] T)) (some ⟨k,0,none⟩) 1 [x]:=by
 subst hk;exact xCR W x T
theorem dH (w:World) (n:Nat):(w.drewN n).heap.size=w.heap.size:=rfl
theorem dZ (W:World) (x:Value) (t:TypeId) (k:Nat) (hk:k=W.heap.size):∀j u,[x][j]?=some u->(W.alloc (.cells #[x] t)).cell? ((⟨k,0,none⟩:Addr).add j)=some u:=by
 subst hk;exact cell_one_new W x t
theorem jZ {w:World} {base size m:Nat} {e:TypeId} {v:Value} {xs:List Value} (h:w.ownsRow base e size v m xs):∃A c,v = .slice A m c/\m<=c/\c<=9223372036854775807:=by
 rcases h.2 with ⟨rfl,hn⟩ | ⟨g,cap,cur,rfl,hb,hh,hnc,hm,_,_⟩
 ·subst hn;exact ⟨none,0,rfl,by omega,by omega⟩
 ·exact ⟨_,cap,rfl,by simpa using hnc,by simp only [maxLen] at hm;omega⟩
theorem xCS {α : Type} {k:Nat} {R:Rd α} {W:World} {A:Option Addr} {c:Nat} (h:c<=9223372036854775807):Slc k R W A c ([]:List α):=⟨Sl.nil,by simp,h⟩
theorem jH {w W w2:World} {g base size m:Nat} {e:TypeId} {v:Value} {xs:List Value} {o:Obj} (hgrow:W.grownBy w2 v.ownBlock) (hB:Below w.heap.size w W) (hg:w.heap[g]?=some o) (hown:w.ownsRow base e size v m xs) (hgb:g<base):w2.heap[g]?=some o:=by
 have hlt:=(Array.getElem?_eq_some_iff.1 hg).1;exact ((hgrow.block g (bN hlt hB.size) (dV hown hgb)).trans (hB.block g hlt)).trans hg
theorem kS {w W w2:World} {g base:Nat} {n k:Int} {ds:List Int} {v v':Value} (hB:Below w.heap.size w W) (hgrow:W.grownBy w2 v.ownBlock) (hown:w.ownsRow base 3 1 v ds.length (ds.map (Value.int .i64)))
 (hown':w2.ownsRow base 3 1 v' (ds.length+1) (ds.map (Value.int .i64) ++ [.int .i64 k])) (hg:w.heap[g]?=some (.cells #[.int .i64 n,v] 201)) (hgb:g<base) (_hb:base<=w.heap.size):
 addP base g v.ownBlock n ds (0,k) w (.returned (.int .i64 0)) (w2.setCell ⟨g,1,none⟩ v'):=by
 have hg2:=jH hgrow hB hg hown hgb;refine ⟨rfl,(Stp2.grown hB hgrow).set _ _,fun _=>⟨v',wC _ hg2,?_⟩⟩;rw [bB,cG,bS];exact dI hown' (fun k hk _ _=>bH w2 ⟨g,1,none⟩ v' k (by simp;omega))
theorem xBF (ds:List Int) (n:Int) (t:Ty) (g base:Nat) (v:Value) (A:Option Addr) (c:Nat) (w:World) (hg:w.heap[g]?=some (.cells #[.int .i64 n,v] 201)) (hown:w.ownsRow base 3 1 v ds.length (ds.map (Value.int .i64))) (hgb:g<base) (hb:base<=w.heap.size) (hl:ds.length<=65535) (ht:Slc 1 RInt w A c t.flds) (hs:Shape n t) (hk:t.kind<=2):
 Calls Tryz.prog 146 #[.pointer (some ⟨g,0,none⟩),tyAgg t A c] w fun e' w'=>addP base g v.ownBlock n ds (addE ds n t) w e' w':=by
 obtain ⟨hk0,hk4,hpl,hfl,hrg⟩:=hs;have hf:=hfl (by omega);obtain ⟨hmu,hreg,hel⟩:=hpl (by omega);have hdep:depF ds 0 t.flds=some 0:=by rw [hf];rfl
 have HF:Hid (addE ds n t=(0,1)):=aF (by
  unfold addE;rw [aZ (by omega),aZ (by simp [hmu,hreg,hel,hf]),aZ (by omega),aZ (by omega),hdep];simp only
  rw [aZ (by omega),aZ (by omega)];rfl)
 rw [HF.out];obtain ⟨x0,x1,f0,f1⟩:=eE hg;obtain ⟨i0,hi,hz0,hz1,hz2⟩:=info_parts dU;obtain ⟨B,d,rfl,hsl⟩:=dB hown;have HOWN:=aF hown;have HG:=aF hg;have HB:=aF hb;have hgw:g<w.heap.size:=by omega
 have hgl:=dM hgw;have hcb:=ht.big;have hlen:=hsl.le;have hdb:=hsl.big;clear hown hg ht hb;unfold tyAgg;obtain ⟨k,mu,rg,el,fl⟩:=t;simp only at *;subst hmu hreg hel hf;have HBW:Below w.heap.size w (w.alloc (.cells #[.int .i64 k,.bool false,.int .i64 0,.int .i64 0,.slice A 0 c] 65)):=(aX _ _).alloc (aY _) _;have HSL:Slc 1 RInt (w.alloc (.cells #[.int .i64 k,.bool false,.int .i64 0,.int .i64 0,.slice A 0 c] 65)) A c ([]:List Int):=xCS hcb;have HBA:Hid (Below w.heap.size w ((w.alloc (.cells #[.int .i64 k,.bool false,.int .i64 0,.int .i64 0,.slice A 0 c] 65)).alloc (.cells #[.int .i64 1] 3))):=aF (HBW.alloc (by simp) _);simp only [bO];rcases (show k=0\/k=1\/k=2 by omega) with rfl | rfl | rfl
 all_goals
  go_enter Tryz.func146,Tryz.ntmps146
  go_wp2_with (first
   | (go_at_call 183;refine (eU ds _ g _ _ _ _ _ (cO HBW x1) (hsl.keep RInt.keeps HBW) HSL).mono ?_;rintro e' w' ⟨rfl,hw⟩;obtain rfl:=hw.symm;rw [gM hdep];simp only [depQ])
   | (at_builtin;refine wpList_append_own _ rfl _ _ 34 rfl base 3 i0 (.int .i64 0) 1 8 Tryz.underlying34 hi hz0 hz1 hz2 rfl (by decide) _ _ _ rfl (dG HOWN.out HBA.out) ⟨_,0,none⟩ 1 1 [.int .i64 1] rfl rfl (dZ _ _ _ _ (by simp)) (ints_oneCell .i64 [1]) (by unfold maxLen;omega) (by omega) (bX HB.out HBA.out.size) ?_;intro v' w2 hown' hgrow _;obtain ⟨B',d',rfl,_⟩:=jZ hown';obtain ⟨y0,y1,f2,f3⟩:=eE (jH hgrow HBA.out HG.out HOWN.out hgb);have HFIN:=aF (kS HBA.out hgrow HOWN.out hown' HG.out hgb HB.out)))
  go_ret;exact HFIN.out
theorem yD (ds:List Int) (n:Int) (t:Ty) (g base:Nat) (v:Value) (A:Option Addr) (c:Nat) (w:World) (hg:w.heap[g]?=some (.cells #[.int .i64 n,v] 201)) (hown:w.ownsRow base 3 1 v ds.length (ds.map (Value.int .i64))) (hgb:g<base) (hb:base<=w.heap.size) (_hl:ds.length<=65535) (ht:Slc 1 RInt w A c t.flds) (hk:t.kind=3) (hf:t.flds=[]) (hrg:0<=t.reg/\t.reg<n) (hdep:depF ds 0 [t.elem]=none):
 Calls Tryz.prog 146 #[.pointer (some ⟨g,0,none⟩),tyAgg t A c] w fun e' w'=>addP base g v.ownBlock n ds (addE ds n t) w e' w':=by
 have HF:Hid (addE ds n t=(3,0)):=aF (by
  unfold addE;rw [aZ (by omega),aZ (by simp [hk,hf]),aZ (by omega),bA hk,hdep]
  )
 rw [HF.out];obtain ⟨x0,x1,f0,f1⟩:=eE hg;obtain ⟨i0,hi,hz0,hz1,hz2⟩:=info_parts dU;obtain ⟨B,d,rfl,hsl⟩:=dB hown;have HOWN:=aF hown;have HG:=aF hg;have HB:=aF hb;have hgw:g<w.heap.size:=by omega
 have hgl:=dM hgw;have hcb:=ht.big;have hcl:=ht.le;have HT:=aF ht;have hlen:=hsl.le;have hdb:=hsl.big;clear hown hg ht hb;unfold tyAgg;obtain ⟨k,mu,rg,el,fl⟩:=t;simp only at *;subst hk hf;simp only [bO];obtain ⟨hr1,hr2⟩:=hrg;have e1:decide (rg<0)=false:=by simp;omega
 have e2:¬n<=rg:=by omega
 have HBQ:Hid (∀m,Below w.heap.size w ((w.alloc (.cells #[.int .i64 3,.bool mu,.int .i64 rg,.int .i64 el,.slice A 0 c] 65)).drewN m)):=aF (fun m=>aG ((aX _ _).alloc (aY _) _) _);have HBD:Hid (∀m,Below w.heap.size w (((w.alloc (.cells #[.int .i64 3,.bool mu,.int .i64 rg,.int .i64 el,.slice A 0 c] 65)).drewN m).alloc (.cells #[.int .i64 el] 3))):=aF (fun m=>((HBQ.out m).alloc (by simp []) _));go_enter Tryz.func146,Tryz.ntmps146
 go_wp2_with fail
 go_quiet (fail)
 go_wp2_with (first
  | (go_at_call 183;refine (eU ds [el] g _ _ _ _ _ (cO ((HBQ.out _).alloc (by simp []) _) x1) (hsl.keep RInt.keeps ((HBQ.out _).alloc (by simp []) _)) (fN _ _ _ _ (by rw [dH];simp))).mono ?_;rintro e' w' ⟨rfl,hw⟩;obtain rfl:=hw.symm;rw [gM hdep];simp only [depQ]))
 all_goals first
  | (go_ret;exact eZ (Stp2.of_below (HBD.out _)) (by omega))
  | (exfalso;omega)
theorem yF (ds:List Int) (n:Int) (t:Ty) (g base:Nat) (v:Value) (A:Option Addr) (c:Nat) (w:World) (hg:w.heap[g]?=some (.cells #[.int .i64 n,v] 201)) (hown:w.ownsRow base 3 1 v ds.length (ds.map (Value.int .i64))) (hgb:g<base) (hb:base<=w.heap.size) (_hl:ds.length<=65535) (ht:Slc 1 RInt w A c t.flds) (hk:t.kind=3) (hf:t.flds=[]) (hrg:0<=t.reg/\t.reg<n) (kd:Int) (hdep:depF ds 0 [t.elem]=some kd) (hkd:32<=kd):
 Calls Tryz.prog 146 #[.pointer (some ⟨g,0,none⟩),tyAgg t A c] w fun e' w'=>addP base g v.ownBlock n ds (addE ds n t) w e' w':=by
 have HF:Hid (addE ds n t=(19,0)):=aF (by
  unfold addE;rw [aZ (by omega),aZ (by simp [hk,hf]),aZ (by omega),bA hk,hdep];simp only
  rw [aZ (by omega),bA hkd])
 rw [HF.out];obtain ⟨x0,x1,f0,f1⟩:=eE hg;obtain ⟨i0,hi,hz0,hz1,hz2⟩:=info_parts dU;obtain ⟨B,d,rfl,hsl⟩:=dB hown;have HOWN:=aF hown;have HG:=aF hg;have HB:=aF hb;have hgw:g<w.heap.size:=by omega
 have hgl:=dM hgw;have hcb:=ht.big;have hcl:=ht.le;have HT:=aF ht;have hlen:=hsl.le;have hdb:=hsl.big;clear hown hg ht hb;unfold tyAgg;obtain ⟨k,mu,rg,el,fl⟩:=t;simp only at *;subst hk hf;simp only [bO];obtain ⟨hr1,hr2⟩:=hrg;have e1:decide (rg<0)=false:=by simp;omega
 have e2:¬n<=rg:=by omega
 have HBQ:Hid (∀m,Below w.heap.size w ((w.alloc (.cells #[.int .i64 3,.bool mu,.int .i64 rg,.int .i64 el,.slice A 0 c] 65)).drewN m)):=aF (fun m=>aG ((aX _ _).alloc (aY _) _) _);have HBD:Hid (∀m,Below w.heap.size w (((w.alloc (.cells #[.int .i64 3,.bool mu,.int .i64 rg,.int .i64 el,.slice A 0 c] 65)).drewN m).alloc (.cells #[.int .i64 el] 3))):=aF (fun m=>((HBQ.out m).alloc (by simp []) _));go_enter Tryz.func146,Tryz.ntmps146
 go_wp2_with fail
 go_quiet (fail)
 go_wp2_with (first
  | (go_at_call 183;refine (eU ds [el] g _ _ _ _ _ (cO ((HBQ.out _).alloc (by simp []) _) x1) (hsl.keep RInt.keeps ((HBQ.out _).alloc (by simp []) _)) (fN _ _ _ _ (by rw [dH];simp))).mono ?_;rintro e' w' ⟨rfl,hw⟩;obtain rfl:=hw.symm;rw [gM hdep];simp only [depQ]))
 all_goals first
  | (go_ret;exact eZ (Stp2.of_below (HBD.out _)) (by omega))
  | (exfalso;omega)
theorem yE (ds:List Int) (n:Int) (t:Ty) (g base:Nat) (v:Value) (A:Option Addr) (c:Nat) (w:World) (hg:w.heap[g]?=some (.cells #[.int .i64 n,v] 201)) (hown:w.ownsRow base 3 1 v ds.length (ds.map (Value.int .i64))) (hgb:g<base) (hb:base<=w.heap.size) (hl:ds.length<=65535) (ht:Slc 1 RInt w A c t.flds) (hk:t.kind=3) (hf:t.flds=[]) (hrg:0<=t.reg/\t.reg<n) (kd:Int) (hdep:depF ds 0 [t.elem]=some kd) (hkd0:0<=kd) (hkd:¬32<=kd):
 Calls Tryz.prog 146 #[.pointer (some ⟨g,0,none⟩),tyAgg t A c] w fun e' w'=>addP base g v.ownBlock n ds (addE ds n t) w e' w':=by
 have HF:Hid (addE ds n t=(0,kd+1)):=aF (by
  unfold addE;rw [aZ (by omega),aZ (by simp [hk,hf]),aZ (by omega),bA hk,hdep];simp only
  rw [aZ (by omega),aZ hkd])
 rw [HF.out];obtain ⟨x0,x1,f0,f1⟩:=eE hg;obtain ⟨i0,hi,hz0,hz1,hz2⟩:=info_parts dU;obtain ⟨B,d,rfl,hsl⟩:=dB hown;have HOWN:=aF hown;have HG:=aF hg;have HB:=aF hb;have hgw:g<w.heap.size:=by omega
 have hgl:=dM hgw;have hcb:=ht.big;have hcl:=ht.le;have HT:=aF ht;have hlen:=hsl.le;have hdb:=hsl.big;clear hown hg ht hb;unfold tyAgg;obtain ⟨k,mu,rg,el,fl⟩:=t;simp only at *;subst hk hf;simp only [bO];obtain ⟨hr1,hr2⟩:=hrg;have e1:decide (rg<0)=false:=by simp;omega
 have e2:¬n<=rg:=by omega
 have HBQ:Hid (∀m,Below w.heap.size w ((w.alloc (.cells #[.int .i64 3,.bool mu,.int .i64 rg,.int .i64 el,.slice A 0 c] 65)).drewN m)):=aF (fun m=>aG ((aX _ _).alloc (aY _) _) _);have e3:¬32<=kd:=by omega
 have HBAm:Hid (∀m,Below w.heap.size w ((((w.alloc (.cells #[.int .i64 3,.bool mu,.int .i64 rg,.int .i64 el,.slice A 0 c] 65)).drewN m).alloc (.cells #[.int .i64 el] 3)).alloc (.cells #[.int .i64 (kd+1)] 3))):=aF (fun m=>((HBQ.out m).alloc (by simp []) _).alloc (by simp [];omega) _);go_enter Tryz.func146,Tryz.ntmps146
 go_wp2_with fail
 go_quiet (fail)
 go_wp2_with (first
  | (go_at_call 183;refine (eU ds [el] g _ _ _ _ _ (cO ((HBQ.out _).alloc (by simp []) _) x1) (hsl.keep RInt.keeps ((HBQ.out _).alloc (by simp []) _)) (fN _ _ _ _ (by rw [dH];simp))).mono ?_;rintro e' w' ⟨rfl,hw⟩;obtain rfl:=hw.symm;rw [gM hdep];simp only [depQ])
  | (at_builtin;refine wpList_append_own _ rfl _ _ 34 rfl base 3 i0 (.int .i64 0) 1 8 Tryz.underlying34 hi hz0 hz1 hz2 rfl (by decide) _ _ _ rfl (dG HOWN.out (HBAm.out _)) ⟨_,0,none⟩ 1 1 [.int .i64 (kd+1)] rfl rfl (dZ _ _ _ _ (by simp [])) (ints_oneCell .i64 [kd+1]) (by unfold maxLen;omega) (by omega) (bX HB.out (HBAm.out _).size) ?_;intro v' w2 hown' hgrow _;obtain ⟨B',d',rfl,_⟩:=jZ hown';obtain ⟨y0,y1,f2,f3⟩:=eE (jH hgrow (HBAm.out _) HG.out HOWN.out hgb);have HFIN:=aF (kS (HBAm.out _) hgrow HOWN.out hown' HG.out hgb HB.out)))
 all_goals first
  | (exfalso;omega)
  | (go_ret;exact HFIN.out)
theorem yA (ds:List Int) (n:Int) (t:Ty) (g base:Nat) (v:Value) (A:Option Addr) (c:Nat) (w:World) (hg:w.heap[g]?=some (.cells #[.int .i64 n,v] 201)) (hown:w.ownsRow base 3 1 v ds.length (ds.map (Value.int .i64))) (hgb:g<base) (hb:base<=w.heap.size) (_hl:ds.length<=65535) (ht:Slc 1 RInt w A c t.flds) (hk:t.kind=4) (hmu:t.mu=false) (hreg:t.reg=0) (hel:t.elem=0) (hdep:depF ds 0 t.flds=none):
 Calls Tryz.prog 146 #[.pointer (some ⟨g,0,none⟩),tyAgg t A c] w fun e' w'=>addP base g v.ownBlock n ds (addE ds n t) w e' w':=by
 have HF:Hid (addE ds n t=(3,0)):=aF (by
  unfold addE;rw [aZ (by omega),aZ (by simp [hk,hmu,hreg,hel]),aZ (by omega),aZ (by omega),hdep]
  )
 rw [HF.out];obtain ⟨x0,x1,f0,f1⟩:=eE hg;obtain ⟨i0,hi,hz0,hz1,hz2⟩:=info_parts dU;obtain ⟨B,d,rfl,hsl⟩:=dB hown;have HOWN:=aF hown;have HG:=aF hg;have HB:=aF hb;have hgw:g<w.heap.size:=by omega
 have hgl:=dM hgw;have hcb:=ht.big;have hcl:=ht.le;have HT:=aF ht;have hlen:=hsl.le;have hdb:=hsl.big;clear hown hg ht hb;unfold tyAgg;obtain ⟨k,mu,rg,el,fl⟩:=t;simp only at *;subst hk hmu hreg hel;have HDEP:=aF (fun W (hb:Below w.heap.size w W)=>eU ds fl g A B c d W (cO hb x1) (hsl.keep RInt.keeps hb) (HT.out.keep RInt.keeps hb));rw [gM hdep] at HDEP;simp only [depQ] at HDEP;obtain ⟨m,hm⟩:∃m,fl.length=m:=⟨_,rfl⟩;rw [hm] at HDEP hcl;rw [hm];clear hm HT HF;have HBW:Below w.heap.size w (w.alloc (.cells #[.int .i64 4,.bool false,.int .i64 0,.int .i64 0,.slice A m c] 65)):=(aX _ _).alloc (aY _) _;have HBD:=aF (fun (_:Nat)=>HBW);go_enter Tryz.func146,Tryz.ntmps146
 go_wp2_with (first
  | (go_at_call 183;refine (HDEP.out _ HBW).mono ?_;rintro e' w' ⟨rfl,hw⟩;obtain rfl:=hw.symm))
 all_goals first
  | (go_ret;exact eZ (Stp2.of_below (HBD.out 0)) (by omega))
  | (exfalso;omega)
theorem xBG (ds:List Int) (n:Int) (t:Ty) (g base:Nat) (v:Value) (A:Option Addr) (c:Nat) (w:World) (hg:w.heap[g]?=some (.cells #[.int .i64 n,v] 201)) (hown:w.ownsRow base 3 1 v ds.length (ds.map (Value.int .i64))) (hgb:g<base) (hb:base<=w.heap.size) (_hl:ds.length<=65535) (ht:Slc 1 RInt w A c t.flds) (hk:t.kind=4) (hmu:t.mu=false) (hreg:t.reg=0) (hel:t.elem=0) (kd:Int) (hdep:depF ds 0 t.flds=some kd) (hlim:t.flds.length=0\/65535<t.flds.length):
 Calls Tryz.prog 146 #[.pointer (some ⟨g,0,none⟩),tyAgg t A c] w fun e' w'=>addP base g v.ownBlock n ds (addE ds n t) w e' w':=by
 have HF:Hid (addE ds n t=(15,0)):=aF (by
  unfold addE;rw [aZ (by omega),aZ (by simp [hk,hmu,hreg,hel]),aZ (by omega),aZ (by omega),hdep];simp only
  rw [bA ⟨hk,hlim⟩])
 rw [HF.out];obtain ⟨x0,x1,f0,f1⟩:=eE hg;obtain ⟨i0,hi,hz0,hz1,hz2⟩:=info_parts dU;obtain ⟨B,d,rfl,hsl⟩:=dB hown;have HOWN:=aF hown;have HG:=aF hg;have HB:=aF hb;have hgw:g<w.heap.size:=by omega
 have hgl:=dM hgw;have hcb:=ht.big;have hcl:=ht.le;have HT:=aF ht;have hlen:=hsl.le;have hdb:=hsl.big;clear hown hg ht hb;unfold tyAgg;obtain ⟨k,mu,rg,el,fl⟩:=t;simp only at *;subst hk hmu hreg hel;have HDEP:=aF (fun W (hb:Below w.heap.size w W)=>eU ds fl g A B c d W (cO hb x1) (hsl.keep RInt.keeps hb) (HT.out.keep RInt.keeps hb));rw [gM hdep] at HDEP;simp only [depQ] at HDEP;obtain ⟨m,hm⟩:∃m,fl.length=m:=⟨_,rfl⟩;rw [hm] at HDEP hcl hlim;rw [hm];clear hm HT HF;have HBW:Below w.heap.size w (w.alloc (.cells #[.int .i64 4,.bool false,.int .i64 0,.int .i64 0,.slice A m c] 65)):=(aX _ _).alloc (aY _) _;have HBD:=aF (fun (_:Nat)=>HBW);rcases hlim with rfl | hlim
 all_goals
  go_enter Tryz.func146,Tryz.ntmps146
  go_wp2_with (first
   | (go_at_call 183;refine (HDEP.out _ HBW).mono ?_;rintro e' w' ⟨rfl,hw⟩;obtain rfl:=hw.symm))
  all_goals first
   | (go_ret;exact eZ (Stp2.of_below (HBD.out 0)) (by omega))
   | (exfalso;omega)
theorem yC (ds:List Int) (n:Int) (t:Ty) (g base:Nat) (v:Value) (A:Option Addr) (c:Nat) (w:World) (hg:w.heap[g]?=some (.cells #[.int .i64 n,v] 201)) (hown:w.ownsRow base 3 1 v ds.length (ds.map (Value.int .i64))) (hgb:g<base) (hb:base<=w.heap.size) (_hl:ds.length<=65535) (ht:Slc 1 RInt w A c t.flds) (hk:t.kind=4) (hmu:t.mu=false) (hreg:t.reg=0) (hel:t.elem=0) (kd:Int) (hdep:depF ds 0 t.flds=some kd) (hlim:¬(t.flds.length=0\/65535<t.flds.length)) (hkd:32<=kd):
 Calls Tryz.prog 146 #[.pointer (some ⟨g,0,none⟩),tyAgg t A c] w fun e' w'=>addP base g v.ownBlock n ds (addE ds n t) w e' w':=by
 have HF:Hid (addE ds n t=(19,0)):=aF (by
  unfold addE;rw [aZ (by omega),aZ (by simp [hk,hmu,hreg,hel]),aZ (by omega),aZ (by omega),hdep];simp only
  rw [aZ (by omega),bA hkd])
 rw [HF.out];obtain ⟨x0,x1,f0,f1⟩:=eE hg;obtain ⟨i0,hi,hz0,hz1,hz2⟩:=info_parts dU;obtain ⟨B,d,rfl,hsl⟩:=dB hown;have HOWN:=aF hown;have HG:=aF hg;have HB:=aF hb;have hgw:g<w.heap.size:=by omega
 have hgl:=dM hgw;have hcb:=ht.big;have hcl:=ht.le;have HT:=aF ht;have hlen:=hsl.le;have hdb:=hsl.big;clear hown hg ht hb;unfold tyAgg;obtain ⟨k,mu,rg,el,fl⟩:=t;simp only at *;subst hk hmu hreg hel;have HDEP:=aF (fun W (hb:Below w.heap.size w W)=>eU ds fl g A B c d W (cO hb x1) (hsl.keep RInt.keeps hb) (HT.out.keep RInt.keeps hb));rw [gM hdep] at HDEP;simp only [depQ] at HDEP;obtain ⟨m,hm⟩:∃m,fl.length=m:=⟨_,rfl⟩;rw [hm] at HDEP hcl hlim;rw [hm];clear hm HT HF;have hl1:0<m:=by omega
 have hl2:m<=65535:=by omega
 have e4:((m:Int) == 0)=false:=by simp;omega
 have e5:¬(65535:Int)<(m:Int):=by omega
 clear hlim;have HBW:Below w.heap.size w (w.alloc (.cells #[.int .i64 4,.bool false,.int .i64 0,.int .i64 0,.slice A m c] 65)):=(aX _ _).alloc (aY _) _;have HBD:=aF (fun (_:Nat)=>HBW);go_enter Tryz.func146,Tryz.ntmps146
 go_wp2_with (first
  | (go_at_call 183;refine (HDEP.out _ HBW).mono ?_;rintro e' w' ⟨rfl,hw⟩;obtain rfl:=hw.symm))
 all_goals first
  | (go_ret;exact eZ (Stp2.of_below (HBD.out 0)) (by omega))
  | (exfalso;omega)
theorem yB (ds:List Int) (n:Int) (t:Ty) (g base:Nat) (v:Value) (A:Option Addr) (c:Nat) (w:World) (hg:w.heap[g]?=some (.cells #[.int .i64 n,v] 201)) (hown:w.ownsRow base 3 1 v ds.length (ds.map (Value.int .i64))) (hgb:g<base) (hb:base<=w.heap.size) (hl:ds.length<=65535) (ht:Slc 1 RInt w A c t.flds) (hk:t.kind=4) (hmu:t.mu=false) (hreg:t.reg=0) (hel:t.elem=0) (kd:Int) (hdep:depF ds 0 t.flds=some kd) (hlim:¬(t.flds.length=0\/65535<t.flds.length)) (hkd0:0<=kd) (hkd:¬32<=kd):
 Calls Tryz.prog 146 #[.pointer (some ⟨g,0,none⟩),tyAgg t A c] w fun e' w'=>addP base g v.ownBlock n ds (addE ds n t) w e' w':=by
 have HF:Hid (addE ds n t=(0,kd+1)):=aF (by
  unfold addE;rw [aZ (by omega),aZ (by simp [hk,hmu,hreg,hel]),aZ (by omega),aZ (by omega),hdep];simp only
  rw [aZ (by omega),aZ hkd])
 rw [HF.out];obtain ⟨x0,x1,f0,f1⟩:=eE hg;obtain ⟨i0,hi,hz0,hz1,hz2⟩:=info_parts dU;obtain ⟨B,d,rfl,hsl⟩:=dB hown;have HOWN:=aF hown;have HG:=aF hg;have HB:=aF hb;have hgw:g<w.heap.size:=by omega
 have hgl:=dM hgw;have hcb:=ht.big;have hcl:=ht.le;have HT:=aF ht;have hlen:=hsl.le;have hdb:=hsl.big;clear hown hg ht hb;unfold tyAgg;obtain ⟨k,mu,rg,el,fl⟩:=t;simp only at *;subst hk hmu hreg hel;have HDEP:=aF (fun W (hb:Below w.heap.size w W)=>eU ds fl g A B c d W (cO hb x1) (hsl.keep RInt.keeps hb) (HT.out.keep RInt.keeps hb));rw [gM hdep] at HDEP;simp only [depQ] at HDEP;obtain ⟨m,hm⟩:∃m,fl.length=m:=⟨_,rfl⟩;rw [hm] at HDEP hcl hlim;rw [hm];clear hm HT HF;have hl1:0<m:=by omega
 have hl2:m<=65535:=by omega
 have e4:((m:Int) == 0)=false:=by simp;omega
 have e5:¬(65535:Int)<(m:Int):=by omega
 clear hlim;have HBW:Below w.heap.size w (w.alloc (.cells #[.int .i64 4,.bool false,.int .i64 0,.int .i64 0,.slice A m c] 65)):=(aX _ _).alloc (aY _) _;have HBD:=aF (fun (_:Nat)=>HBW);have e3:¬32<=kd:=by omega
 have HBA:Hid (Below w.heap.size w ((w.alloc (.cells #[.int .i64 4,.bool false,.int .i64 0,.int .i64 0,.slice A m c] 65)).alloc (.cells #[.int .i64 (kd+1)] 3))):=aF (HBW.alloc (by simp) _);go_enter Tryz.func146,Tryz.ntmps146
 go_wp2_with (first
  | (go_at_call 183;refine (HDEP.out _ HBW).mono ?_;rintro e' w' ⟨rfl,hw⟩;obtain rfl:=hw.symm)
  | (at_builtin;refine wpList_append_own _ rfl _ _ 34 rfl base 3 i0 (.int .i64 0) 1 8 Tryz.underlying34 hi hz0 hz1 hz2 rfl (by decide) _ _ _ rfl (dG HOWN.out HBA.out) ⟨_,0,none⟩ 1 1 [.int .i64 (kd+1)] rfl rfl (dZ _ _ _ _ (by simp)) (ints_oneCell .i64 [kd+1]) (by unfold maxLen;omega) (by omega) (bX HB.out HBA.out.size) ?_;intro v' w2 hown' hgrow _;obtain ⟨B',d',rfl,_⟩:=jZ hown';obtain ⟨y0,y1,f2,f3⟩:=eE (jH hgrow HBA.out HG.out HOWN.out hgb);have HFIN:=aF (kS HBA.out hgrow HOWN.out hown' HG.out hgb HB.out)))
 all_goals first
  | (exfalso;omega)
  | (go_ret;exact HFIN.out)
end
section
open Go.RowKit Go.Shelf
theorem mC {P:Program} (t e:TypeId) (A:Option Addr) (n c j k:Nat) (ht:P.underlying t=some (.slice e)) (hk:∀w,(sizeOf e).run P w = .ok k w) (hj:j<=n) (hn:n<=c) (w:World):
 (Instr.slice t (.slice A n c) none (some (.int .i64 (j:Int))) none).run P w = .ok (.slice (cutA A c 0 k) j c) w:=by
 have hb:=run_sliceBound (P:=P) (w:=w) .i64 (j:Int) c .sliceAcap (by omega) (by omega);simp only [bV] at hb;simp [Instr.slice,run_underlying ht,Instr.sliceBounds,hb,hk,cutA]
theorem xCX (A B C:Option Addr) (nt c nl d np e:Nat) (l q:Int) (w:World) (hq:q≠0)
 (hCk:Hid (Calls Tryz.prog 166 #[.agg #[.int .i64 l,.slice C np e]] (w.alloc (.cells #[.int .i64 l,.slice C np e] 51)) fun e' w'=>e' = .returned (.int .i64 q)/\Below (w.alloc (.cells #[.int .i64 l,.slice C np e] 51)).heap.size (w.alloc (.cells #[.int .i64 l,.slice C np e] 51)) w')):
 Calls Tryz.prog 126 #[.slice A nt c,.slice B nl d,.agg #[.int .i64 l,.slice C np e]] w fun e' w'=>e' = .returned (.tuple #[.int .i64 0,.int .i64 q])/\Below w.heap.size w w':=by
 have hB0:=aF (((aX _ _).alloc (aY _) _:Below w.heap.size w (w.alloc (.cells #[.int .i64 l,.slice C np e] 51))));have hq2:(q != 0)=true:=by simp [hq]
 clear hq;go_enter Tryz.func126,Tryz.ntmps126
 go_wp2_with (go_at_call 166;refine hCk.out.mono ?_;rintro e' w1 ⟨rfl,hb1⟩)
 exact bodyPost_ret (by simp [results,Tryz.results126,go_sem] <;> rfl) rfl ⟨rfl,hB0.out.trans (hb1.mono hB0.out.size)⟩
theorem xCW (A B C:Option Addr) (nt c nl d np e m:Nat) (w:World) (hl:nl<=m)
 (hCk:Hid (Calls Tryz.prog 166 #[.agg #[.int .i64 m,.slice C np e]] (w.alloc (.cells #[.int .i64 m,.slice C np e] 51)) fun e' w'=>e' = .returned (.int .i64 0)/\Below (w.alloc (.cells #[.int .i64 m,.slice C np e] 51)).heap.size (w.alloc (.cells #[.int .i64 m,.slice C np e] 51)) w')):
 Calls Tryz.prog 126 #[.slice A nt c,.slice B nl d,.agg #[.int .i64 m,.slice C np e]] w fun e' w'=>e' = .returned (.tuple #[.int .i64 0,.int .i64 3])/\Below w.heap.size w w':=by
 have hB0:=aF (((aX _ _).alloc (aY _) _:Below w.heap.size w (w.alloc (.cells #[.int .i64 m,.slice C np e] 51))));have z1:(w.alloc (.cells #[.int .i64 m,.slice C np e] 51)).cell? ⟨w.heap.size,0,none⟩=some (.int .i64 m):=by go_simp
 have hq2:decide ((nl:Int)<=(m:Int))=true:=by simp;omega
 go_enter Tryz.func126,Tryz.ntmps126
 go_wp2_with (go_at_call 166;refine hCk.out.mono ?_;rintro e' w1 ⟨rfl,hb1⟩;have z1':=cO hb1 z1)
 exact bodyPost_ret (by simp [results,Tryz.results126,go_sem] <;> rfl) rfl ⟨rfl,hB0.out.trans (hb1.mono hB0.out.size)⟩
theorem xCV (A C:Option Addr) (nt c nl d e m b off:Nat) (x:Lc) (w:World) (hl:m<nl) (hr2:w.cell? ⟨b,off+m * 2+1,none⟩=some (.int .i64 x.type))
 (hCk:Hid (Calls Tryz.prog 166 #[.agg #[.int .i64 m,.slice C 0 e]] (w.alloc (.cells #[.int .i64 m,.slice C 0 e] 51)) fun e' w'=>e' = .returned (.int .i64 0)/\Below (w.alloc (.cells #[.int .i64 m,.slice C 0 e] 51)).heap.size (w.alloc (.cells #[.int .i64 m,.slice C 0 e] 51)) w')):
 Calls Tryz.prog 126 #[.slice A nt c,.slice (some ⟨b,off,none⟩) nl d,.agg #[.int .i64 m,.slice C 0 e]] w fun e' w'=>e' = .returned (.tuple #[.int .i64 x.type,.int .i64 0])/\Below w.heap.size w w':=by
 have hB0:=aF (((aX _ _).alloc (aY _) _:Below w.heap.size w (w.alloc (.cells #[.int .i64 m,.slice C 0 e] 51))));have z1:(w.alloc (.cells #[.int .i64 m,.slice C 0 e] 51)).cell? ⟨w.heap.size,0,none⟩=some (.int .i64 m):=by go_simp
 have z2:(w.alloc (.cells #[.int .i64 m,.slice C 0 e] 51)).cell? ⟨w.heap.size,1,none⟩=some (.slice C 0 e):=by go_simp
 have hq2:decide ((nl:Int)<=(m:Int))=false:=by simp;omega
 go_enter Tryz.func126,Tryz.ntmps126
 go_wp2_with (go_at_call 166;refine hCk.out.mono ?_;rintro e' w1 ⟨rfl,hb1⟩;have hr2':=cO (hB0.out.trans (hb1.mono hB0.out.size)) hr2;have z1':=cO hb1 z1;have z2':=cO hb1 z2)
 exact bodyPost_ret (by simp [results,Tryz.results126,go_sem] <;> rfl) rfl ⟨rfl,hB0.out.trans (hb1.mono hB0.out.size)⟩
theorem xER {t:Ty} {x:Pj} {f:Nat} (hf:x.field=f) (h:f<t.flds.length):prT t x=if x.kind=0/\t.kind=3 then (t.elem,0) else if x.kind=1/\t.kind=4 then (t.flds[f],0) else (0,22):=by
 unfold prT;rw [hf,bA (show (f:Int)<t.flds.length by omega),bV,List.getD_eq_getElem?_getD,bD h];rfl
theorem xDC {t:Ty} {x:Pj} {f:Nat} (hf:x.field=f) (h:¬f<t.flds.length):prT t x=if x.kind=0/\t.kind=3 then (t.elem,0) else if x.kind=1/\t.kind=4 then (0,3) else (0,22):=by
 unfold prT;rw [hf,aZ (show ¬(f:Int)<t.flds.length by omega)]
theorem zM (A B C:Option Addr) (nt c nl d e m k:Nat) (i q:Int) (R:Int × Int) (w:World) (hl:m<nl) (hk:k+1<=32) (hke:k+1<=e) (he:e<=9223372036854775807)
 (hCk:Hid (Calls Tryz.prog 166 #[.agg #[.int .i64 m,.slice C (k+1) e]] (w.alloc (.cells #[.int .i64 m,.slice C (k+1) e] 51)) fun e' w'=>e' = .returned (.int .i64 0)/\Below (w.alloc (.cells #[.int .i64 m,.slice C (k+1) e] 51)).heap.size (w.alloc (.cells #[.int .i64 m,.slice C (k+1) e] 51)) w'))
 (hRec:Hid (∀W,Below w.heap.size w W->Calls Tryz.prog 126 #[.slice A nt c,.slice B nl d,.agg #[.int .i64 m,.slice C k e]] W fun e' w'=>e' = .returned (.tuple #[.int .i64 i,.int .i64 q])/\Below W.heap.size W w'))
 (hbad:q≠0->R=(0,q))
 (hgood:q=0->∃(j bT oT bC oC:Nat) (t:Ty) (x:Pj),i=(j:Int)/\j<nt/\A=some ⟨bT,oT,none⟩/\bT<w.heap.size/\RTy w w.heap.size bT (oT+j * 5) t/\C=some ⟨bC,oC,none⟩/\bC<w.heap.size/\RPj w w.heap.size bC (oC+k * 2) x/\R=prT t x/\0<=x.field):
 Calls Tryz.prog 126 #[.slice A nt c,.slice B nl d,.agg #[.int .i64 m,.slice C (k+1) e]] w fun e' w'=>e' = .returned (.tuple #[.int .i64 R.1,.int .i64 R.2])/\Below w.heap.size w w':=by
 have hB0:=aF (((aX _ _).alloc (aY _) _:Below w.heap.size w (w.alloc (.cells #[.int .i64 m,.slice C (k+1) e] 51))));have z1:(w.alloc (.cells #[.int .i64 m,.slice C (k+1) e] 51)).cell? ⟨w.heap.size,0,none⟩=some (.int .i64 m):=by go_simp
 have z2:(w.alloc (.cells #[.int .i64 m,.slice C (k+1) e] 51)).cell? ⟨w.heap.size,1,none⟩=some (.slice C (k+1) e):=by go_simp
 have hq2:decide ((nl:Int)<=(m:Int))=false:=by simp;omega
 go_enter Tryz.func126,Tryz.ntmps126
 go_wp2_with (go_at_call 166;refine hCk.out.mono ?_;rintro e' w1 ⟨rfl,hb1⟩;have z1':=cO hb1 z1;have z2':=cO hb1 z2)
 have hwk:IntKind.i64.wrap (k:Int)=(k:Int):=by rw [IntKind.wrap_i64];omega
 have hB1:Below w.heap.size w w1:=hB0.out.trans (hb1.mono hB0.out.size);clear z1 z2 hb1 hB0 hCk;refine fT (S:=fun X=>X.cell? ⟨w.heap.size,0,none⟩=some (.int .i64 m)/\X.cell? ⟨w.heap.size,1,none⟩=some (.slice C (k+1) e)) (t:=16) (by kernel_rfl) ?_;have hS:w1.drew.cell? ⟨w.heap.size,0,none⟩=some (.int .i64 m)/\w1.drew.cell? ⟨w.heap.size,1,none⟩=some (.slice C (k+1) e):=⟨z1',z2'⟩;refine cW (i:=0) (v:=?tv0) rfl (by kernel_rfl) (by kernel_rfl) (by kernel_rfl) (by kernel_rfl) (fun _ _ _ h=>h) (Or.inl ⟨by rfl,?ty0⟩) hS ?tr0
 case ty0=>
  rintro X ⟨s1,s2⟩;simp only [aL];go_simp;rfl
 simp only [aL,Act.put,aK];refine cW (i:=1) (v:=?tv1) rfl (by kernel_rfl) (by kernel_rfl) (by kernel_rfl) (by kernel_rfl) (fun _ _ _ h=>h) (Or.inl ⟨by rfl,?ty1⟩) hS ?tr1
 case ty1=>
  rintro X ⟨s1,s2⟩;simp only [aL];go_simp;rfl
 simp only [aL,Act.put,aK];refine cW (i:=2) (v:=?tv2) rfl (by kernel_rfl) (by kernel_rfl) (by kernel_rfl) (by kernel_rfl) (fun _ _ _ h=>h) (Or.inl ⟨by rfl,?ty2⟩) hS ?tr2
 case ty2=>
  rintro X ⟨s1,s2⟩;simp only [aL];go_simp;rfl
 simp only [aL,Act.put,aK];refine cW (i:=3) (v:=?tv3) rfl (by kernel_rfl) (by kernel_rfl) (by kernel_rfl) (by kernel_rfl) (fun _ _ _ h=>h) (Or.inl ⟨by rfl,?ty3⟩) hS ?tr3
 case ty3=>
  rintro X ⟨s1,s2⟩;simp only [aL];go_simp;rfl
 simp only [aL,Act.put,aK];refine cW (i:=4) (v:=?tv4) rfl (by kernel_rfl) (by kernel_rfl) (by kernel_rfl) (by kernel_rfl) (fun _ _ _ h=>h) (Or.inl ⟨by rfl,?ty4⟩) hS ?tr4
 case ty4=>
  rintro X ⟨s1,s2⟩;simp only [aL];go_simp;rfl
 simp only [aL,Act.put,aK];refine cW (i:=5) (v:=?tv5) rfl (by kernel_rfl) (by kernel_rfl) (by kernel_rfl) (by kernel_rfl) (fun _ _ _ h=>h) (Or.inl ⟨by rfl,?ty5⟩) hS ?tr5
 case ty5=>
  rintro X ⟨s1,s2⟩;simp only [aL];go_simp;rfl
 simp only [aL,Act.put,aK];refine cW (i:=6) (v:=?tv6) rfl (by kernel_rfl) (by kernel_rfl) (by kernel_rfl) (by kernel_rfl) (fun _ _ _ h=>h) (Or.inl ⟨by rfl,?ty6⟩) hS ?tr6
 case ty6=>
  rintro X ⟨s1,s2⟩;simp only [aL];go_simp;rfl
 simp only [aL,Act.put,aK];refine cW (i:=7) (v:= .int .i64 (k:Int)) rfl (by kernel_rfl) (by kernel_rfl) (by kernel_rfl) (by kernel_rfl) (fun _ _ _ h=>h) (Or.inl ⟨by rfl,?ty7⟩) hS ?tr7
 case ty7=>
  rintro X ⟨s1,s2⟩;simp only [aL];go_simp;try (first | rfl | (rw [hwk]) | simp [hwk])
 simp only [aL,Act.put,aK];refine cW (i:=8) (v:= .slice C k e) rfl (by kernel_rfl) (by kernel_rfl) (by kernel_rfl) (by kernel_rfl) (fun _ _ _ h=>h) (Or.inl ⟨by rfl,?ty8⟩) hS ?tr8
 case ty8=>
  rintro X ⟨s1,s2⟩;simp only [aL];go_simp;(try simp only [hwk]);first | rfl | (intro h;omega) | (rw [bA (by omega)];simp)
 simp only [aL,Act.put,aK];refine cW (i:=9) (v:=?tv9) rfl (by kernel_rfl) (by kernel_rfl) (by kernel_rfl) (by kernel_rfl) (fun _ _ _ h=>h) (Or.inl ⟨by rfl,?ty9⟩) hS ?tr9
 case ty9=>
  rintro X ⟨s1,s2⟩;simp only [aL];go_simp;rfl
 simp only [aL,Act.put,aK];refine eB (i:=10) (by kernel_rfl) rfl (fun K1 hK1=>?_);simp only [aL,Act.put,aK];rw [bA (by rfl)];go_simp;refine (hRec.out _ hB1.drew).mono ?_;rintro e' w2 ⟨rfl,hb2⟩;have hS2:w2.cell? ⟨w.heap.size,0,none⟩=some (.int .i64 m)/\w2.cell? ⟨w.heap.size,1,none⟩=some (.slice C (k+1) e):=⟨cO hb2 hS.1,cO hb2 hS.2⟩;refine hK1.out _ _ (fun _=>hS2) ?_;refine cW (i:=11) (v:=?tv11) rfl (by kernel_rfl) (by kernel_rfl) (by kernel_rfl) (by kernel_rfl) (fun _ _ _ h=>h) (Or.inl ⟨by rfl,?ty11⟩) hS2 ?tr11
 case ty11=>
  rintro X ⟨s1,s2⟩;simp only [aL];go_simp;rfl
 simp only [aL,Act.put,aK];refine cW (i:=12) (v:=?tv12) rfl (by kernel_rfl) (by kernel_rfl) (by kernel_rfl) (by kernel_rfl) (fun _ _ _ h=>h) (Or.inl ⟨by rfl,?ty12⟩) hS2 ?tr12
 case ty12=>
  rintro X ⟨s1,s2⟩;simp only [aL];go_simp;rfl
 simp only [aL,Act.put,aK];refine cW (i:=13) (v:=?tv13) rfl (by kernel_rfl) (by kernel_rfl) (by kernel_rfl) (by kernel_rfl) (fun _ _ _ h=>h) (Or.inl ⟨by rfl,?ty13⟩) hS2 ?tr13
 case ty13=>
  rintro X ⟨s1,s2⟩;simp only [aL];go_simp;rfl
 simp only [aL,Act.put,aK];refine cW (i:=14) (v:=?tv14) rfl (by kernel_rfl) (by kernel_rfl) (by kernel_rfl) (by kernel_rfl) (fun _ _ _ h=>h) (Or.inl ⟨by rfl,?ty14⟩) hS2 ?tr14
 case ty14=>
  rintro X ⟨s1,s2⟩;simp only [aL];go_simp;rfl
 simp only [aL,Act.put,aK];refine cW (i:=15) (v:=?tv15) rfl (by kernel_rfl) (by kernel_rfl) (by kernel_rfl) (by kernel_rfl) (fun _ _ _ h=>h) (Or.inl ⟨by rfl,?ty15⟩) hS2 ?tr15
 case ty15=>
  rintro X ⟨s1,s2⟩;simp only [aL];go_simp;rfl
 simp only [aL,Act.put,aK];refine fC (by kernel_rfl) ?_ _;have hB2:Below w.heap.size w w2:=hB1.drew.trans (hb2.mono hB1.drew.size);obtain ⟨y1,y2⟩:=hS2;clear hRec z1' z2' hS hb2 hK1;by_cases hq0:q=0
 ·subst hq0;clear hbad;obtain ⟨j,bT,oT,bC,oC,t,x,rfl,hj,rfl,hbT,hrT,rfl,hbC,hrC,hR,hxf⟩:=hgood rfl;obtain ⟨f,hf⟩:=bG hxf;obtain ⟨r1,r2,r3,r4,A2,c2,r5,r6,r7,r8⟩:=RTy.keeps _ _ _ w.heap.size _ _ _ (aY _) hbT hB2 hrT;obtain ⟨g1,g2⟩:=RPj.keeps _ _ _ w.heap.size _ _ _ (aY _) hbC hB2 hrC;rw [hf] at g2;have hs2:=hB2.size;have hlw:=cD _ _ y1;have hlt1:=dM (show w.heap.size<w2.heap.size from hlw);have hlt2':bT<w2.heap.size:=by omega
  have hlt3':bC<w2.heap.size:=by omega
  have hlt2:=dM hlt2';have hlt3:=dM hlt3';clear hrT hrC hgood hxf;by_cases hff:f<t.flds.length
  ·obtain ⟨b3,o3,rfl,hb3,r9⟩:=r8.at_ hff;have hP:=aF (hR.trans (xER hf hff));have hd:¬((f:Int) ≥ t.flds.length):=by omega
   unfold RInt at r9;generalize t.flds[f]=y at *;have hlt4':b3<w2.heap.size:=by omega
   have hlt4:=dM hlt4';rw [Nat.mul_one] at r9;clear hR hf r8;go_wp2
   all_goals
    refine bodyPost_ret (by simp [results,Tryz.results126,go_sem] <;> rfl) rfl ⟨?_,?_⟩
   all_goals
    first
    | (rw [hP.out];grind)
    | exact aH
  ·have hP:=aF (hR.trans (xDC hf hff));have hd:(f:Int) ≥ t.flds.length:=by omega
   clear hR hf r8;go_wp2
   all_goals
    refine bodyPost_ret (by simp [results,Tryz.results126,go_sem] <;> rfl) rfl ⟨?_,?_⟩
   all_goals
    first
    | (rw [hP.out];grind)
    | exact aH
 ·have hR:=aF (hbad hq0);have hq:(q != 0)=true:=by simp [hq0]
  clear hbad hgood hq0;go_wp2
  exact bodyPost_ret (by simp [results,Tryz.results126,go_sem] <;> rfl) rfl ⟨by rw [hR.out],hB2⟩
theorem jQ (ts:List Ty) (ls:List Lc) (l:Int):∀(n:Nat) (ps:List Pj),ps.length=n->∀(A B C:Option Addr) (c d e:Nat) (w:World),Slc 5 RTy w A c ts->Slc 2 RLc w B d ls->Slc 2 RPj w C e ps->Okay ts ls->
 Calls Tryz.prog 126 #[.slice A ts.length c,.slice B ls.length d,.agg #[.int .i64 l,.slice C ps.length e]] w fun e' w'=>e' = .returned (.tuple #[.int .i64 (tyOf ts ls l ps).1,.int .i64 (tyOf ts ls l ps).2])/\Below w.heap.size w w'
 | n,ps,hn,A,B,C,c,d,e,w,hts,hls,hps,hok=>by
   have hCk:=aF (tV l C e ps (w.alloc (.cells #[.int .i64 l,.slice C ps.length e] 51)) (hps.keep RPj.keeps ((aX _ _).alloc (aY _) _)));by_cases hk:chk l ps=0
   ·obtain ⟨hl0,hp32⟩:=kP hk;rw [hk] at hCk;obtain ⟨m,rfl⟩:=bG hl0;by_cases hl:m<ls.length
    ·match n,hn with
     | 0,hn=>
       have hps0:ps=[]:=bU hn;subst hps0;obtain ⟨b,off,rfl,hb,hr⟩:=hls.sl.at_ hl;rw [yL hk hl];exact xCV A C ts.length c ls.length d e m b off ls[m] w hl hr.2 hCk
     | k+1,hn=>
       obtain ⟨qs,x,rfl⟩:∃qs x,ps=qs ++ [x]:=⟨ps.dropLast,ps.getLast (by intro h;simp [h] at hn),(List.dropLast_concat_getLast _).symm⟩;have hqs:qs.length=k:=(by simpa using hn);have hlen:(qs ++ [x]).length=k+1:=hn;rw [nA hk (by omega)];have hle:=hps.le;have hbig:=hps.big;rw [hlen] at hCk hle hp32 ⊢
       have hqq:Slc 2 RPj w C e qs:=by
        have h:=hps.takeN k;rwa [List.take_left' hqs] at h
       obtain ⟨hx0,hx1,hx2⟩:=sI hk;refine zM A B C ts.length c ls.length d e m k (tyOf ts ls m qs).1 (tyOf ts ls m qs).2 _ w hl hp32 hle hbig hCk (aF (fun W hW=>?_)) (fun hq=>?_) (fun hq=>?_)
       ·have h:=jQ ts ls m k qs hqs A B C c d e W (hts.keep RTy.keeps hW) (hls.keep RLc.keeps hW) (hqq.keep RPj.keeps hW) hok;rwa [hqs] at h
       ·have h:=yM hq;unfold stepE;rw [bA hq];exact Prod.ext h rfl
       ·obtain ⟨h1,h2⟩:=fW hok hq;obtain ⟨j,hj⟩:=bG h1;have hj2:j<ts.length:=(by omega);obtain ⟨bT,oT,hA,hbT,hrT⟩:=hts.sl.at_ hj2;obtain ⟨bC,oC,hC,hbC,hrC⟩:=hps.sl.at_ (show k<(qs ++ [x]).length by omega)
        have hxk:(qs ++ [x])[k]'(by omega)=x:=by
         subst hqs;simp
        rw [hxk] at hrC;refine ⟨j,bT,oT,bC,oC,ts[j],x,hj,hj2,hA,hbT,hrT,hC,hbC,hrC,?_,hx2⟩;unfold stepE;rw [aZ (by omega),hj,bV,bD hj2]
    ·rw [qU hk (by omega)];exact xCW A B C ts.length c ls.length d ps.length e m w (by omega) hCk
   ·rw [qV hk];exact xCX A B C ts.length c ls.length d ps.length e l _ w hk hCk
end
section
open Go Go.RowKit
theorem qI (d:List Int):∀(l:List Int) (a k:Int),depF d a l=some k->a<=k
 | [],a,k,h=>by simp [depF] at h;omega
 | i :: r,a,k,h=>by
   rw [depF] at h;split at h
   ·cases h
   ·split at h
    ·cases h
    ·have:=qI d r _ k h;omega
theorem xEC (ds:List Int) (n:Int) (t:Ty) (g base:Nat) (v:Value) (A:Option Addr) (c:Nat) (w:World) (hg:w.heap[g]?=some (.cells #[.int .i64 n,v] 201)) (hown:w.ownsRow base 3 1 v ds.length (ds.map (Value.int .i64))) (hgb:g<base) (hb:base<=w.heap.size) (hl:ds.length<=65535) (ht:Slc 1 RInt w A c t.flds):
 Calls Tryz.prog 146 #[.pointer (some ⟨g,0,none⟩),tyAgg t A c] w fun e' w'=>addP base g v.ownBlock n ds (addE ds n t) w e' w':=by
 by_cases h1:t.kind<0\/4<t.kind
 ·exact xBD ds n t g base v A c w hg hown hgb hb hl ht h1
 by_cases h2:(t.kind≠3/\(t.mu=true\/t.reg≠0\/t.elem≠0))\/(t.kind≠4/\0<t.flds.length)
 ·exact xBE ds n t g base v A c w hg hown hgb hb hl ht (by omega) (by omega) h2
 have hpl:t.kind≠3->t.mu=false/\t.reg=0/\t.elem=0:=fun h=>by
  by_cases hm:t.mu=true
  ·exact absurd (.inl ⟨h,.inl hm⟩) h2
  ·refine ⟨by simpa using hm,?_,?_⟩
   ·exact Decidable.byContradiction fun hr=>h2 (.inl ⟨h,.inr (.inl hr)⟩)
   ·exact Decidable.byContradiction fun hr=>h2 (.inl ⟨h,.inr (.inr hr)⟩)
 have hfl:t.kind≠4->t.flds=[]:=fun h=>by
  rcases Nat.eq_zero_or_pos t.flds.length with h0 | h0
  ·exact bU h0
  ·exact absurd (.inr ⟨h,h0⟩) h2
 by_cases h3:t.kind=3
 ·have hf:=hfl (by omega);by_cases hr:t.reg<0\/n<=t.reg
  ·exact xEB ds n t g base v A c w hg hown hgb hb hl ht h3 hf hr
  ·cases hd:depF ds 0 [t.elem] with
   | none=>exact yD ds n t g base v A c w hg hown hgb hb hl ht h3 hf (by omega) hd
   | some kd=>
     by_cases h32:32<=kd
     ·exact yF ds n t g base v A c w hg hown hgb hb hl ht h3 hf (by omega) kd hd h32
     ·exact yE ds n t g base v A c w hg hown hgb hb hl ht h3 hf (by omega) kd hd (qI _ _ _ _ hd) h32
 by_cases h4:t.kind=4
 ·obtain ⟨hm,hr,he⟩:=hpl h3;cases hd:depF ds 0 t.flds with
  | none=>exact yA ds n t g base v A c w hg hown hgb hb hl ht h4 hm hr he hd
  | some kd=>
    by_cases hlim:t.flds.length=0\/65535<t.flds.length
    ·exact xBG ds n t g base v A c w hg hown hgb hb hl ht h4 hm hr he kd hd hlim
    ·by_cases h32:32<=kd
     ·exact yC ds n t g base v A c w hg hown hgb hb hl ht h4 hm hr he kd hd hlim h32
     ·exact yB ds n t g base v A c w hg hown hgb hb hl ht h4 hm hr he kd hd hlim (qI _ _ _ _ hd) h32
 exact xBF ds n t g base v A c w hg hown hgb hb hl ht ⟨by omega,by omega,hpl,hfl,fun h=>absurd h h3⟩ (by omega)
theorem xAS (w:World) (x y z u v:Value) (t:TypeId):∀i q,[x,y,z,u,v][i]?=some q->(w.alloc (.cells #[x,y,z,u,v] t)).cell? ⟨w.heap.size,i,none⟩=some q:=fun i q hi=>by
 rw [World.cell?_alloc_at _ _ _ _ (by simp)];simpa using hi
theorem Stp2.cell {row:Option Nat} {g:Nat} {w w':World} (h:Stp2 row g w w') {k i:Nat} (hk:k<w.heap.size) (hg:k≠g) (hr:some k≠row):w'.cell? ⟨k,i,none⟩=w.cell? ⟨k,i,none⟩:=by
 simp only [World.cell?,h.block k hk hg hr]
theorem oI (n:Int) (prev:List Ty) (d:List Int) (t:Ty) (r:List Ty):typesE n prev d (t :: r)=if (addE d n t).1=0 then (if t∈prev then 21 else typesE n (prev ++ [t]) (d ++ [(addE d n t).2]) r) else (addE d n t).1:=by
 rw [typesE,xCH];by_cases h1:(addE d n t).1=0 <;> by_cases h2:t∈prev <;> simp [h1,h2]
theorem sV (ts:List Ty) (n:Int) (A:Option Addr) (c:Nat) (w:World) (hs:Slc 5 RTy w A c ts):
 Calls Tryz.prog 109 #[.slice A ts.length c,.int .i64 n] w fun e' w'=>e' = .returned (.int .i64 (typesC n ts))/\Below w.heap.size w w':=by
 have hle:=hs.le;have hbig:=hs.big;unfold typesC;by_cases h0:65535<ts.length
 ·rw [bA h0];clear hs;go_enter Tryz.func109,Tryz.ntmps109
  go_wp2_with fail
  go_ret;exact ⟨rfl,aX _ _⟩
 rw [aZ h0];obtain ⟨R,hR⟩:∃R,typesE n [] [] ts=R:=⟨_,rfl⟩;rw [hR];have HR:=aF hR;have HS:=aF hs;clear hR hs;go_enter Tryz.func109,Tryz.ntmps109
 go_wp2_with fail
 go_loopw [19] (fun i wr=>∃(k:Nat) (ds:List Int) (v:Value),k<=ts.length/\i = .int .i64 k/\Hid (ds.length=k)/\Hid (wr.heap[w.heap.size]?=some (.cells #[.int .i64 n,v] 201))/\Hid (wr.ownsRow (w.heap.size+1) 3 1 v ds.length (ds.map (Value.int .i64)))/\Hid (Below w.heap.size w wr)/\w.heap.size+1<=wr.heap.size/\Hid (R=typesE n (ts.take k) ds (ts.drop k))) (fun i _=>ts.length - (intOf i).toNat)
 case atStart=>
  refine ⟨0,[],.slice none 0 0,by omega,rfl,aF rfl,aF ?_,aF (World.ownsRow_nil _ _ _ _),aF ((aX _ _).alloc (aY _) _),by simp,aF HR.out.symm⟩;exact Array.getElem?_push_size
 case round=>
  obtain ⟨k,ds,v,hk,rfl,hdl,hg,hown,hB,hsz,hr⟩:=hrel;by_cases hlt:k<ts.length
  ·have hd:=cV hlt;obtain ⟨b,o,rfl,hb,hx⟩:=HS.out.sl.at_ hlt;have htk:Hid (ts.take (k+1)=ts.take k ++ [ts[k]]):=aF (bF hlt);obtain ⟨t,ht⟩:∃t,ts[k]=t:=⟨_,rfl⟩;rw [ht] at hd hx htk;obtain ⟨r1,r2,r3,r4,A2,c2,r5,r6,r7,r8⟩:=hx;have HFL:Hid (Slc 1 RInt w A2 c2 t.flds):=aF ⟨r8,r6,r7⟩;replace r1:=(hB.out.cell (p:=⟨b,o+k * 5,none⟩) hb).trans r1;replace r2:=(hB.out.cell (p:=⟨b,o+k * 5+1,none⟩) hb).trans r2;replace r3:=(hB.out.cell (p:=⟨b,o+k * 5+2,none⟩) hb).trans r3;replace r4:=(hB.out.cell (p:=⟨b,o+k * 5+3,none⟩) hb).trans r4;replace r5:=(hB.out.cell (p:=⟨b,o+k * 5+4,none⟩) hb).trans r5;obtain ⟨W1,hW1⟩:∃W1,W1=wr.alloc (.cells #[.int .i64 t.kind,.bool t.mu,.int .i64 t.reg,.int .i64 t.elem,.slice A2 t.flds.length c2] 65):=⟨_,rfl⟩;have hBW:Below w.heap.size w W1:=by rw [hW1];exact hB.out.alloc (by omega) _
   have hBW0:Below wr.heap.size wr W1:=by rw [hW1];exact (aX _ _).alloc (aY _) _
   have hW1s:W1.heap.size=wr.heap.size+1:=by rw [hW1];simp
   have hgW:W1.heap[w.heap.size]?=some (.cells #[.int .i64 n,v] 201):=(hBW0.block _ (by omega)).trans hg.out;have hrow:∀j,v.ownBlock=some j->w.heap.size+1<=j/\j<wr.heap.size:=fun j hj=>hown.out.lt j hj
   have HADD:=aF (xEC ds n t w.heap.size (w.heap.size+1) v A2 c2 W1 hgW (dG hown.out hBW0) (by omega) (by omega) (by rw [hdl.out];omega) (HFL.out.keep RInt.keeps hBW));have HNEW:Hid (∀i q,[Value.int .i64 t.kind,.bool t.mu,.int .i64 t.reg,.int .i64 t.elem,.slice A2 t.flds.length c2][i]?=some q->W1.cell? ⟨wr.heap.size,i,none⟩=some q):=aF (by rw [hW1];exact xAS wr _ _ _ _ _ _);have HROW:=aF hrow;have HBW:=aF hBW;have HW1S:=aF hW1s;have HN:Hid (R=if (addE ds n t).1=0 then (if t∈ts.take k then 21 else typesE n (ts.take k ++ [t]) (ds ++ [(addE ds n t).2]) (ts.drop (k+1))) else (addE ds n t).1):=aF (by rw [hr.out,hd];exact oI _ _ _ _ _);have HFIND:=aF (fun W (hb:Below w.heap.size w W)=>wZ (ts.take k) t (some ⟨b,o,none⟩) A2 c c2 W ((HS.out.takeN k).keep RTy.keeps hb) (HFL.out.keep RInt.keeps hb));rw [cM,Nat.min_eq_left hk] at HFIND
   have hcut:∀W,(Instr.slice 24 (.slice (some ⟨b,o,none⟩) ts.length c) none (some (.int .i64 (k:Int))) none).run Tryz.prog W = .ok (.slice (some ⟨b,o,none⟩) k c) W:=fun W=>by
    have:=mC (P:=Tryz.prog) 24 65 (some ⟨b,o,none⟩) ts.length c k 5 Tryz.underlying24 Tryz.sizeOf65 (by omega) hle W;simpa [cutA,Addr.add] using this
   generalize addE ds n t=q at HADD HN;obtain ⟨er,dp⟩:=q;simp only at HN;unfold tyAgg at HADD HFIND;rw [hW1] at HADD;clear hd hr r8 hgW hrow hBW hBW0 hW1s;by_cases he:er=0
   ·subst he;rw [bA rfl] at HN;have HCUT:=aF hcut;clear hcut;go_wp2_with (go_at_call 146;refine HADD.out.mono ?_;rintro e' w2 ⟨rfl,hst,hgd⟩;have HST:=aF hst;have HGD:=aF hgd;clear hst hgd)
    have hst:=HST.out;rw [<- hW1] at hst;have hB2:Below w.heap.size w w2:=HBW.out.trans (hst.below (aY _) (fun j hj=>by have:=(HROW.out j hj).1;omega) HBW.out.size)
    have hnew:∀i q,[Value.int .i64 t.kind,.bool t.mu,.int .i64 t.reg,.int .i64 t.elem,.slice A2 t.flds.length c2][i]?=some q->w2.cell? ⟨wr.heap.size,i,none⟩=some q:=fun i q hi=>
     (hst.cell (by rw [HW1S.out];omega) (by omega) (fun e=>by have:=(HROW.out _ e.symm).2;omega)).trans (HNEW.out i q hi)
    obtain ⟨y0,y1,y2,y3,y4⟩:=aQ hnew;have hcut:=HCUT.out;have hsz2:wr.heap.size+1<=w2.heap.size:=by have:=hst.size;rw [HW1S.out] at this;exact this
    have HB2:=aF hB2;have HFI:=aF (HFIND.out w2.drew hB2.drew);obtain ⟨v',hg',hown'⟩:=HGD.out (by simp);have HG':=aF hg';have HOWN':=aF hown';clear hst hnew hB2 hg' hown';have hS:w2.drew.cell? ⟨wr.heap.size,0,none⟩=some (.int .i64 t.kind)/\w2.drew.cell? ⟨wr.heap.size,1,none⟩=some (.bool t.mu)/\w2.drew.cell? ⟨wr.heap.size,2,none⟩=some (.int .i64 t.reg)/\w2.drew.cell? ⟨wr.heap.size,3,none⟩=some (.int .i64 t.elem)/\w2.drew.cell? ⟨wr.heap.size,4,none⟩=some (.slice A2 t.flds.length c2):=⟨y0,y1,y2,y3,y4⟩;refine gT (S:=fun X=>X.cell? ⟨wr.heap.size,0,none⟩=some (.int .i64 t.kind)/\X.cell? ⟨wr.heap.size,1,none⟩=some (.bool t.mu)/\X.cell? ⟨wr.heap.size,2,none⟩=some (.int .i64 t.reg)/\X.cell? ⟨wr.heap.size,3,none⟩=some (.int .i64 t.elem)/\X.cell? ⟨wr.heap.size,4,none⟩=some (.slice A2 t.flds.length c2)) (by kernel_rfl) ?_;(iterate 4 (refine fU (v:=?_) (by kernel_rfl) (fun _ _ _ h=>h) (Or.inl ⟨by rfl,?_⟩) hS ?_;rotate_left;(next=>(rintro X ⟨s0,s1,s2,s3,s4⟩;(try simp only [aJ]);go_simp;rfl));simp only [aJ,Act.put,aK]));(refine uO (by kernel_rfl) (fun K1 hK1=>?_);simp only [aJ,Act.put,aK];rw [bA (by rfl)];go_simp);refine HFI.out.mono ?_;rintro e' w3 ⟨⟨i,rfl⟩,hb3⟩;replace hS:=(⟨cO hb3 hS.1,cO hb3 hS.2.1,cO hb3 hS.2.2.1,cO hb3 hS.2.2.2.1,cO hb3 hS.2.2.2.2⟩:w3.cell? ⟨wr.heap.size,0,none⟩=some (.int .i64 t.kind)/\w3.cell? ⟨wr.heap.size,1,none⟩=some (.bool t.mu)/\w3.cell? ⟨wr.heap.size,2,none⟩=some (.int .i64 t.reg)/\w3.cell? ⟨wr.heap.size,3,none⟩=some (.int .i64 t.elem)/\w3.cell? ⟨wr.heap.size,4,none⟩=some (.slice A2 t.flds.length c2));refine hK1.out _ _ (fun _=>hS) ?_;(iterate 5 (refine fU (v:=?_) (by kernel_rfl) (fun _ _ _ h=>h) (Or.inl ⟨by rfl,?_⟩) hS ?_;rotate_left;(next=>(rintro X ⟨s0,s1,s2,s3,s4⟩;(try simp only [aJ]);go_simp;rfl));simp only [aJ,Act.put,aK]));refine lZ rfl ?_;clear hS;by_cases hm:t∈ts.take k
    ·have HF:Hid (R=21):=aF (by rw [HN.out,bA hm]);have hmd:decide (t∈ts.take k)=true:=(by simp [hm]);rw [hmd];clear hm hmd HN;go_wp2_with fail
     go_ret;exact ⟨by rw [HF.out];rfl,HB2.out.drew.trans (hb3.mono HB2.out.drew.size)⟩
    ·have HF:Hid (R=typesE n (ts.take (k+1)) (ds ++ [dp]) (ts.drop (k+1))):=aF (by rw [HN.out,aZ hm,htk.out]);have hmd:decide (t∈ts.take k)=false:=(by simp [hm]);rw [hmd];clear hm hmd HN;go_wp2_with fail
     go_roundw
     case rel=>
      have hb3':Below w2.heap.size w2 w3:=(aX _ _).drew.trans hb3;have hl:(ds ++ [dp]).length=k+1:=by rw [bB,hdl.out];rfl
      exact ⟨k+1,ds ++ [dp],v',by omega,by go_num,aF hl,aF ((hb3'.block _ (by omega)).trans HG'.out),aF (dG HOWN'.out hb3'),aF (HB2.out.drew.trans (hb3.mono HB2.out.drew.size)),bX (by omega) hb3'.size,HF⟩
     case measure=>simp [intOf];omega
   ·rw [aZ he] at HN;have e1:(er != 0)=true:=by simp [he]
    clear hcut;go_wp2_with (go_at_call 146;refine HADD.out.mono ?_;rintro e' w2 ⟨rfl,hst,hgd⟩;have HST:=aF hst;clear hst hgd)
    go_ret;refine ⟨by rw [HN.out];rfl,HBW.out.trans ?_⟩;rw [hW1];exact HST.out.below (aY _) (fun j hj=>by have:=(HROW.out j hj).1;omega) (by simp;omega)
  ·have HN:Hid (R=0):=aF (by rw [hr.out,bE (by omega)];rfl);clear hr hg hown;go_wp2_with fail
   go_ret;exact ⟨by rw [HN.out];rfl,hB.out⟩
end
section
open Go Go.RowKit Go.Maps
def relL (pairs:List (Int × Int)) (s:Bool) (x:Int):List Int:=if s=true then (pairs.filter (fun p=>decide (p.2=x))).map (·.1) else (pairs.filter (fun p=>decide (p.1=x))).map (·.2)
theorem vT (l:List (Int × Int)) (p:Int × Int):relL (l ++ [p])=updL (updL (relL l) false p.1 (relL l false p.1 ++ [p.2])) true p.2 (relL l true p.2 ++ [p.1]):=by
 funext s x
 cases s
 ·simp only [relL,updL,Bool.false_eq_true,if_false,false_and,true_and,List.filter_append,bS];by_cases h:x=p.1
  ·subst h;simp
  ·have:¬p.1=x:=fun e=>h e.symm
   simp [h,this]
 ·simp only [relL,updL,if_true,true_and,List.filter_append,bS];by_cases h:x=p.2
  ·subst h;simp
  ·have:¬p.2=x:=fun e=>h e.symm
   simp [h,this]
theorem mE (l:List (Int × Int)) (s:Bool) (x:Int):(relL l s x).length<=l.length:=by
 unfold relL;split <;> (rw [cF];exact List.length_filter_le _ _)
theorem lH {n:Int}:∀(l:List (Int × Int)) (q:Option (Int × Int)),pairsE n q l=0->∀p∈l,0<=p.1/\p.1<n/\0<=p.2/\p.2<n
 | [],_,_,p,hp=>by simp at hp
 | x :: r,q,h,p,hp=>by
   rw [gY] at h;by_cases h0:pairE n q x=0
   ·rw [bA h0] at h;rcases List.mem_cons.1 hp with rfl | hp
    ·unfold pairE at h0;split at h0
     ·cases h0
     ·omega
    ·exact lH r _ h p hp
   ·rw [aZ h0] at h;exact absurd h h0
theorem lJ {n:Int} {l:List (Int × Int)} (h:pairsC n l=0):l.length<=65535/\∀p∈l,0<=p.1/\p.1<n/\0<=p.2/\p.2<n:=by
 unfold pairsC at h;split at h
 ·cases h
 ·exact ⟨by omega,lH l _ h⟩
theorem dT {X W:World} {k:Nat} (h:X.heap[k]?=W.heap[k]?) (i:Nat):X.cell? ⟨k,i,none⟩=W.cell? ⟨k,i,none⟩:=by
 simp only [World.cell?,h]
theorem uT {w:World} {k:Nat} {a b:Value} {t:TypeId} (h:w.heap[k]?=some (.cells #[a,b] t)):w.cell? ⟨k,0,none⟩=some a/\w.cell? ⟨k,1,none⟩=some b:=by
 simp [World.cell?,h]
theorem jL {w:World} {k:Nat} {a b c:Value} {t:TypeId} (h:w.heap[k]?=some (.cells #[a,b,c] t)):w.cell? ⟨k,0,none⟩=some a/\w.cell? ⟨k,1,none⟩=some b/\w.cell? ⟨k,2,none⟩=some c:=by
 simp [World.cell?,h]
theorem eS (X:World) (o:Obj) (k:Nat) (hk:k=X.heap.size):(X.alloc o).heap[k]?=some o:=by
 subst hk;exact Array.getElem?_push_size
def mapsAt (k:Nat) (s:Bool):Nat:=if s=true then k+1 else k
theorem mT {P:Program} {o:Oper} {a:Act} {w:World} {K:Act->World->Prop} {Q:Exit->Act->World->Prop} (m x v:Operand) (t:TypeId) (ho:o.op = .mapUpdate t m x v) {b:Nat} {key val:Value} (hm:a.eval m = .map (some b)) (hx:a.eval x=key) (hv:a.eval v=val)
 {w':World} (hrun:(Instr.mapUpdate t (.map (some b)) key val).run P w = .ok () w') (h:K (a.put o.dst undef) w'):o.wp P a w K Q:=by
 unfold Oper.wp;simp [execOp,ho,hm,hx,hv,hrun,Result.andThen];exact h
end
section
open Go Go.RowKit
inductive Rch (pairs:List (Int × Int)):Int->Int->Prop
 | refl (a:Int):Rch pairs a a
 | step {a x y:Int}:Rch pairs a x->(x,y)∈pairs->Rch pairs a y
theorem Rch.trans {pairs:List (Int × Int)} {a b c:Int} (h:Rch pairs a b) (h2:Rch pairs b c):Rch pairs a c:=by
 induction h2 with
 | refl=>exact h
 | step _ hp ih=>exact .step ih hp
theorem Rch.one {pairs:List (Int × Int)} {x y:Int} (h:(x,y)∈pairs):Rch pairs x y:= .step (.refl x) h
theorem Rch.closed {pairs:List (Int × Int)} {S:Int->Prop} (hc:∀x y,S x->(x,y)∈pairs->S y) {a b:Int} (h:Rch pairs a b) (ha:S a):S b:=by
 induction h with
 | refl=>exact ha
 | step _ hp ih=>exact hc _ _ ih hp
theorem dR:∀(n:Nat) (l:List Int),l.Nodup->(∀x∈l,0<=x/\x<n)->l.length<=n
 | 0,l,_,h=>by
   cases l with
   | nil=>simp
   | cons x r=>have:=h x (by simp);omega
 | n+1,l,hn,h=>by
   have h1:=dR n (l.erase (n:Int)) (hn.erase _) (fun x hx=>by
    have hm:=(hn.mem_erase_iff).1 hx;have:=h x hm.2;have:=hm.1
    omega)
   rw [List.length_erase] at h1;split at h1 <;> omega
theorem uB (pairs:List (Int × Int)) (x:Int):∀(set:List Int),∃new,nextR pairs x set=set ++ new/\(∀y∈new,(x,y)∈pairs)/\(set.Nodup->(set ++ new).Nodup)/\∀y,(x,y)∈pairs->y∈set ++ new:=by
 unfold nextR;induction pairs with
 | nil=>exact fun set=>⟨[],by simp,by simp,by simp,by simp⟩
 | cons p r ih=>
   intro set;obtain ⟨p1,p2⟩:=p;rw [List.foldl_cons];by_cases hp:p1=x/\p2∉set
   ·rw [bA hp];obtain ⟨new,h1,h2,h3,h4⟩:=ih (set ++ [p2]);refine ⟨p2 :: new,by rw [h1];simp,?_,?_,?_⟩
    ·intro y hy;rcases List.mem_cons.1 hy with rfl | hy
     ·rw [<- hp.1];exact List.mem_cons_self
     ·exact List.mem_cons_of_mem _ (h2 y hy)
    ·intro hn
     have:(set ++ [p2]).Nodup:=by
      rw [List.nodup_append];refine ⟨hn,by simp,fun a ha b hb=>?_⟩;rw [bR] at hb;subst hb;exact fun e=>hp.2 (e ▸ ha)
     have:=h3 this;simpa using this
    ·intro y hy;rcases List.mem_cons.1 hy with he | hy
     ·injection he with _ he
      subst he;simp
     ·have:=h4 y hy;simpa using this
   ·rw [aZ hp];obtain ⟨new,h1,h2,h3,h4⟩:=ih set;refine ⟨new,h1,fun y hy=>List.mem_cons_of_mem _ (h2 y hy),h3,fun y hy=>?_⟩;rcases List.mem_cons.1 hy with he | hy
    ·injection he with e1 e2
     subst e1 e2;by_cases hm:y∈set
     ·exact List.mem_append_left _ hm
     ·exact absurd ⟨rfl,hm⟩ hp
    ·exact h4 y hy
theorem nS {pairs:List (Int × Int)} {n:Nat} (hr:∀p∈pairs,0<=p.1/\p.1<(n:Int)/\0<=p.2/\p.2<(n:Int)) (b:Int):∀(f:Nat) (set:List Int) (i:Nat),(∀x∈set,0<=x/\x<(n:Int))->set.Nodup->i<=set.length->n<f+i->
 (∀j x y,j<i->set[j]?=some x->(x,y)∈pairs->y∈set)->(∀j x,j<i->set[j]?=some x->x≠b)->(outF pairs b f set i=true↔∃z∈set,Rch pairs z b)
 | 0,set,i,h1,h2,h3,h4,_,_=>by
   have:=dR n set h2 h1;omega
 | f+1,set,i,h1,h2,h3,h4,h5,h6=>by
   rw [outF];cases hx:set[i]? with
   | none=>
     have hi:set.length<=i:=(by simpa using hx);constructor
     ·intro h;cases h
     ·rintro ⟨z,hz,hzb⟩
      have hb:b∈set:=Rch.closed (S:=fun x=>x∈set) (fun x y hxm hp=>by
       obtain ⟨j,hj,he⟩:=List.mem_iff_getElem.1 hxm
       exact h5 j x y (by omega) (by rw [bD hj,he]) hp) hzb hz
      obtain ⟨j,hj,he⟩:=List.mem_iff_getElem.1 hb;exact absurd rfl (h6 j b (by omega) (by rw [bD hj,he]))
   | some x=>
     have hxm:x∈set:=List.mem_of_getElem? hx;simp only;by_cases hxb:x=b
     ·rw [bA hxb];subst hxb;exact ⟨fun _=>⟨x,hxm,.refl x⟩,fun _=>rfl⟩
     ·rw [aZ hxb];obtain ⟨new,n1,n2,n3,n4⟩:=uB pairs x set;rw [n1];have hi:i<set.length:=(List.getElem?_eq_some_iff.1 hx).1;have hold:∀j u,j<set.length->((set ++ new)[j]?=some u↔set[j]?=some u):=fun j u hj=>by rw [List.getElem?_append_left hj]
      have g1:∀y∈set ++ new,0<=y/\y<(n:Int):=fun y hy=>by
       rcases List.mem_append.1 hy with hy | hy
       ·exact h1 y hy
       ·have:=hr _ (n2 y hy);exact ⟨this.2.2.1,this.2.2.2⟩
      have g2:∀j u y,j<i+1->(set ++ new)[j]?=some u->(u,y)∈pairs->y∈set ++ new:=by
       intro j u y hj hu hp;rw [hold j u (by omega)] at hu;rcases Nat.lt_or_ge j i with hji | hji
       ·exact List.mem_append_left _ (h5 j u y hji hu hp)
       ·have:j=i:=by omega
        subst this;rw [hx] at hu;injection hu with hu
        subst hu;exact n4 y hp
      have g3:∀j u,j<i+1->(set ++ new)[j]?=some u->u≠b:=by
       intro j u hj hu;rw [hold j u (by omega)] at hu;rcases Nat.lt_or_ge j i with hji | hji
       ·exact h6 j u hji hu
       ·have:j=i:=by omega
        subst this;rw [hx] at hu;injection hu with hu
        subst hu;exact hxb
      rw [nS hr b f (set ++ new) (i+1) g1 (n3 h2) (by rw [bB];omega) (by omega) g2 g3];constructor
      ·rintro ⟨z,hz,hzb⟩;rcases List.mem_append.1 hz with hz | hz
       ·exact ⟨z,hz,hzb⟩
       ·exact ⟨x,hxm,(Rch.one (n2 z hz)).trans hzb⟩
      ·rintro ⟨z,hz,hzb⟩;exact ⟨z,List.mem_append_left _ hz,hzb⟩
theorem xAB {pairs:List (Int × Int)} {n:Nat} (hr:∀p∈pairs,0<=p.1/\p.1<(n:Int)/\0<=p.2/\p.2<(n:Int)) {a b:Int} (ha:0<=a) (ha2:a<n) (hb:0<=b) (hb2:b<n):
 outB pairs n a b=true↔Rch pairs a b:=by
 unfold outB;rw [aZ (by omega)];rw [nS hr b _ [a] 0 (by simp;omega) (by simp) (by simp) (by simp) (by intro j x y hj;omega) (by intro j x hj;omega)];simp
end
end Go.Proofs.YtcfchohkmkilpaaGreatDoor
