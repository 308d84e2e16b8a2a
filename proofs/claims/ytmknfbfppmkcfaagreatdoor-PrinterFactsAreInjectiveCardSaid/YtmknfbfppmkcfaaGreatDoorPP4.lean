/-
  Parts of the proof: V7 V8 V9 V10 V15 V16 Queue V17.
-/
import Derived.Test.YtmknfbfppmkcfaaGreatDoorPP0
import Derived.Test.YtmknfbfppmkcfaaGreatDoorPP3
import Derived.Test.YtmknfbfppmkcfaaGreatDoorPP2
import Derived.Deep.LoopGhost
namespace Go.Proofs.YtmknfbfppmkcfaaGreatDoor
set_option maxRecDepth 100000
set_option maxHeartbeats 16000000
section
open Go Go.RowKit
theorem xH (W:World) (x:Int) (T:TypeId):Slc 1 RInt (W.alloc (.cells #[.int .i64 x] T)) (some ⟨W.heap.size,0,none⟩) 1 [x]:=by
 refine ⟨fun _=>⟨_,_,rfl,by simp,fun i y hi=>?_⟩,by simp,by omega⟩;cases i with
 | zero=>
   simp at hi;subst hi;show (W.alloc _).cell? ⟨W.heap.size,0,none⟩=_;rw [World.cell?_alloc_at _ _ _ _ (by simp)];rfl
 | succ i=>simp at hi
theorem gB (W:World) (x:Int) (T:TypeId) (k:Nat) (hk:k=W.heap.size):Slc 1 RInt (W.alloc (.cells #[.int .i64 x] T)) (some ⟨k,0,none⟩) 1 [x]:=by
 subst hk;exact xH W x T
theorem cZ (w:World) (n:Nat):(w.drewN n).heap.size=w.heap.size:=rfl
theorem dZ (W:World) (x:Value) (t:TypeId) (k:Nat) (hk:k=W.heap.size):∀j u,[x][j]?=some u->(W.alloc (.cells #[x] t)).cell? ((⟨k,0,none⟩:Addr).add j)=some u:=by
 subst hk;exact cell_one_new W x t
theorem hG {w:World} {base size m:Nat} {e:TypeId} {v:Value} {xs:List Value} (h:w.ownsRow base e size v m xs):∃A c,v = .slice A m c/\m<=c/\c<=9223372036854775807:=by
 rcases h.2 with ⟨rfl,hn⟩ | ⟨g,cap,cur,rfl,hb,hh,hnc,hm,_,_⟩
 ·subst hn;exact ⟨none,0,rfl,by omega,by omega⟩
 ·exact ⟨_,cap,rfl,by simpa using hnc,by simp only [maxLen] at hm;omega⟩
theorem xI {α : Type} {k:Nat} {R:Rd α} {W:World} {A:Option Addr} {c:Nat} (h:c<=9223372036854775807):Slc k R W A c ([]:List α):=⟨Sl.nil,by simp,h⟩
theorem gS {w W w2:World} {g base size m:Nat} {e:TypeId} {v:Value} {xs:List Value} {o:Obj} (hgrow:W.grownBy w2 v.ownBlock) (hB:Below w.heap.size w W) (hg:w.heap[g]?=some o) (hown:w.ownsRow base e size v m xs) (hgb:g<base):w2.heap[g]?=some o:=by
 have hlt:=(Array.getElem?_eq_some_iff.1 hg).1;exact ((hgrow.block g (bO hlt hB.size) (eT hown hgb)).trans (hB.block g hlt)).trans hg
theorem iL {w W w2:World} {g base:Nat} {n k:Int} {ds:List Int} {v v':Value} (hB:Below w.heap.size w W) (hgrow:W.grownBy w2 v.ownBlock) (hown:w.ownsRow base 3 1 v ds.length (ds.map (Value.int .i64)))
 (hown':w2.ownsRow base 3 1 v' (ds.length+1) (ds.map (Value.int .i64) ++ [.int .i64 k])) (hg:w.heap[g]?=some (.cells #[.int .i64 n,v] 203)) (hgb:g<base) (_hb:base<=w.heap.size):
 addP base g v.ownBlock n ds (0,k) w (.returned (.int .i64 0)) (w2.setCell ⟨g,1,none⟩ v'):=by
 have hg2:=gS hgrow hB hg hown hgb;refine ⟨rfl,(Stp2.grown hB hgrow).set _ _,fun _=>⟨v',rQ _ hg2,?_⟩⟩;rw [bB,cG,bU];exact dU hown' (fun k hk _ _=>bH w2 ⟨g,1,none⟩ v' k (by simp;omega))
theorem wF (ds:List Int) (n:Int) (t:Ty) (g base:Nat) (v:Value) (A:Option Addr) (c:Nat) (w:World) (hg:w.heap[g]?=some (.cells #[.int .i64 n,v] 203)) (hown:w.ownsRow base 3 1 v ds.length (ds.map (Value.int .i64))) (hgb:g<base) (hb:base<=w.heap.size) (hl:ds.length<=65535) (ht:Slc 1 RInt w A c t.flds) (hs:Shape n t) (hk:t.kind<=2):
 Calls Tryz.prog 147 #[.pointer (some ⟨g,0,none⟩),tyAgg t A c] w fun e' w'=>addP base g v.ownBlock n ds (addE ds n t) w e' w':=by
 obtain ⟨hk0,hk4,hpl,hfl,hrg⟩:=hs;have hf:=hfl (by omega);obtain ⟨hmu,hreg,hel⟩:=hpl (by omega);have hdep:depF ds 0 t.flds=some 0:=by rw [hf];rfl
 have HF:Hid (addE ds n t=(0,1)):=aF (by
  unfold addE;rw [aZ (by omega),aZ (by simp [hmu,hreg,hel,hf]),aZ (by omega),aZ (by omega),hdep];simp only
  rw [aZ (by omega),aZ (by omega)];rfl)
 rw [HF.out];obtain ⟨x0,x1,f0,f1⟩:=dO hg;obtain ⟨i0,hi,hz0,hz1,hz2⟩:=info_parts eF;obtain ⟨B,d,rfl,hsl⟩:=dE hown;have HOWN:=aF hown;have HG:=aF hg;have HB:=aF hb;have hgw:g<w.heap.size:=by omega
 have hgl:=cY hgw;have hcb:=ht.big;have hlen:=hsl.le;have hdb:=hsl.big;clear hown hg ht hb;unfold tyAgg;obtain ⟨k,mu,rg,el,fl⟩:=t;simp only at *;subst hmu hreg hel hf;have HBW:Below w.heap.size w (w.alloc (.cells #[.int .i64 k,.bool false,.int .i64 0,.int .i64 0,.slice A 0 c] 81)):=(aX _ _).alloc (aY _) _;have HSL:Slc 1 RInt (w.alloc (.cells #[.int .i64 k,.bool false,.int .i64 0,.int .i64 0,.slice A 0 c] 81)) A c ([]:List Int):=xI hcb;have HBA:Hid (Below w.heap.size w ((w.alloc (.cells #[.int .i64 k,.bool false,.int .i64 0,.int .i64 0,.slice A 0 c] 81)).alloc (.cells #[.int .i64 1] 3))):=aF (HBW.alloc (by simp) _);simp only [bP];rcases (show k=0\/k=1\/k=2 by omega) with rfl | rfl | rfl
 all_goals
  go_enter Tryz.func147,Tryz.ntmps147
  go_wp2_with (first
   | (go_at_call 181;refine (eC ds _ g _ _ _ _ _ (cJ HBW x1) (hsl.keep RInt.keeps HBW) HSL).mono ?_;rintro e' w' ⟨rfl,hw⟩;obtain rfl:=hw.symm;rw [fB hdep];simp only [depQ])
   | (at_builtin;refine wpList_append_own _ rfl _ _ 58 rfl base 3 i0 (.int .i64 0) 1 8 Tryz.underlying58 hi hz0 hz1 hz2 rfl (by decide) _ _ _ rfl (dB HOWN.out HBA.out) ⟨_,0,none⟩ 1 1 [.int .i64 1] rfl rfl (dZ _ _ _ _ (by simp)) (ints_oneCell .i64 [1]) (by unfold maxLen;omega) (by omega) (bZ HB.out HBA.out.size) ?_;intro v' w2 hown' hgrow _;obtain ⟨B',d',rfl,_⟩:=hG hown';obtain ⟨y0,y1,f2,f3⟩:=dO (gS hgrow HBA.out HG.out HOWN.out hgb);have HFIN:=aF (iL HBA.out hgrow HOWN.out hown' HG.out hgb HB.out)))
  go_ret;exact HFIN.out
theorem tQ (ds:List Int) (n:Int) (t:Ty) (g base:Nat) (v:Value) (A:Option Addr) (c:Nat) (w:World) (hg:w.heap[g]?=some (.cells #[.int .i64 n,v] 203)) (hown:w.ownsRow base 3 1 v ds.length (ds.map (Value.int .i64))) (hgb:g<base) (hb:base<=w.heap.size) (_hl:ds.length<=65535) (ht:Slc 1 RInt w A c t.flds) (hk:t.kind=3) (hf:t.flds=[]) (hrg:0<=t.reg/\t.reg<n) (hdep:depF ds 0 [t.elem]=none):
 Calls Tryz.prog 147 #[.pointer (some ⟨g,0,none⟩),tyAgg t A c] w fun e' w'=>addP base g v.ownBlock n ds (addE ds n t) w e' w':=by
 have HF:Hid (addE ds n t=(3,0)):=aF (by
  unfold addE;rw [aZ (by omega),aZ (by simp [hk,hf]),aZ (by omega),bA hk,hdep]
  )
 rw [HF.out];obtain ⟨x0,x1,f0,f1⟩:=dO hg;obtain ⟨i0,hi,hz0,hz1,hz2⟩:=info_parts eF;obtain ⟨B,d,rfl,hsl⟩:=dE hown;have HOWN:=aF hown;have HG:=aF hg;have HB:=aF hb;have hgw:g<w.heap.size:=by omega
 have hgl:=cY hgw;have hcb:=ht.big;have hcl:=ht.le;have HT:=aF ht;have hlen:=hsl.le;have hdb:=hsl.big;clear hown hg ht hb;unfold tyAgg;obtain ⟨k,mu,rg,el,fl⟩:=t;simp only at *;subst hk hf;simp only [bP];obtain ⟨hr1,hr2⟩:=hrg;have e1:decide (rg<0)=false:=by simp;omega
 have e2:¬n<=rg:=by omega
 have HBQ:Hid (∀m,Below w.heap.size w ((w.alloc (.cells #[.int .i64 3,.bool mu,.int .i64 rg,.int .i64 el,.slice A 0 c] 81)).drewN m)):=aF (fun m=>aG ((aX _ _).alloc (aY _) _) _);have HBD:Hid (∀m,Below w.heap.size w (((w.alloc (.cells #[.int .i64 3,.bool mu,.int .i64 rg,.int .i64 el,.slice A 0 c] 81)).drewN m).alloc (.cells #[.int .i64 el] 3))):=aF (fun m=>((HBQ.out m).alloc (by simp []) _));go_enter Tryz.func147,Tryz.ntmps147
 go_wp2_with fail
 go_quiet (fail)
 go_wp2_with (first
  | (go_at_call 181;refine (eC ds [el] g _ _ _ _ _ (cJ ((HBQ.out _).alloc (by simp []) _) x1) (hsl.keep RInt.keeps ((HBQ.out _).alloc (by simp []) _)) (gB _ _ _ _ (by rw [cZ];simp))).mono ?_;rintro e' w' ⟨rfl,hw⟩;obtain rfl:=hw.symm;rw [fB hdep];simp only [depQ]))
 all_goals first
  | (go_ret;exact eJ (Stp2.of_below (HBD.out _)) (by omega))
  | (exfalso;omega)
theorem tS (ds:List Int) (n:Int) (t:Ty) (g base:Nat) (v:Value) (A:Option Addr) (c:Nat) (w:World) (hg:w.heap[g]?=some (.cells #[.int .i64 n,v] 203)) (hown:w.ownsRow base 3 1 v ds.length (ds.map (Value.int .i64))) (hgb:g<base) (hb:base<=w.heap.size) (_hl:ds.length<=65535) (ht:Slc 1 RInt w A c t.flds) (hk:t.kind=3) (hf:t.flds=[]) (hrg:0<=t.reg/\t.reg<n) (kd:Int) (hdep:depF ds 0 [t.elem]=some kd) (hkd:32<=kd):
 Calls Tryz.prog 147 #[.pointer (some ⟨g,0,none⟩),tyAgg t A c] w fun e' w'=>addP base g v.ownBlock n ds (addE ds n t) w e' w':=by
 have HF:Hid (addE ds n t=(19,0)):=aF (by
  unfold addE;rw [aZ (by omega),aZ (by simp [hk,hf]),aZ (by omega),bA hk,hdep];simp only
  rw [aZ (by omega),bA hkd])
 rw [HF.out];obtain ⟨x0,x1,f0,f1⟩:=dO hg;obtain ⟨i0,hi,hz0,hz1,hz2⟩:=info_parts eF;obtain ⟨B,d,rfl,hsl⟩:=dE hown;have HOWN:=aF hown;have HG:=aF hg;have HB:=aF hb;have hgw:g<w.heap.size:=by omega
 have hgl:=cY hgw;have hcb:=ht.big;have hcl:=ht.le;have HT:=aF ht;have hlen:=hsl.le;have hdb:=hsl.big;clear hown hg ht hb;unfold tyAgg;obtain ⟨k,mu,rg,el,fl⟩:=t;simp only at *;subst hk hf;simp only [bP];obtain ⟨hr1,hr2⟩:=hrg;have e1:decide (rg<0)=false:=by simp;omega
 have e2:¬n<=rg:=by omega
 have HBQ:Hid (∀m,Below w.heap.size w ((w.alloc (.cells #[.int .i64 3,.bool mu,.int .i64 rg,.int .i64 el,.slice A 0 c] 81)).drewN m)):=aF (fun m=>aG ((aX _ _).alloc (aY _) _) _);have HBD:Hid (∀m,Below w.heap.size w (((w.alloc (.cells #[.int .i64 3,.bool mu,.int .i64 rg,.int .i64 el,.slice A 0 c] 81)).drewN m).alloc (.cells #[.int .i64 el] 3))):=aF (fun m=>((HBQ.out m).alloc (by simp []) _));go_enter Tryz.func147,Tryz.ntmps147
 go_wp2_with fail
 go_quiet (fail)
 go_wp2_with (first
  | (go_at_call 181;refine (eC ds [el] g _ _ _ _ _ (cJ ((HBQ.out _).alloc (by simp []) _) x1) (hsl.keep RInt.keeps ((HBQ.out _).alloc (by simp []) _)) (gB _ _ _ _ (by rw [cZ];simp))).mono ?_;rintro e' w' ⟨rfl,hw⟩;obtain rfl:=hw.symm;rw [fB hdep];simp only [depQ]))
 all_goals first
  | (go_ret;exact eJ (Stp2.of_below (HBD.out _)) (by omega))
  | (exfalso;omega)
theorem tR (ds:List Int) (n:Int) (t:Ty) (g base:Nat) (v:Value) (A:Option Addr) (c:Nat) (w:World) (hg:w.heap[g]?=some (.cells #[.int .i64 n,v] 203)) (hown:w.ownsRow base 3 1 v ds.length (ds.map (Value.int .i64))) (hgb:g<base) (hb:base<=w.heap.size) (hl:ds.length<=65535) (ht:Slc 1 RInt w A c t.flds) (hk:t.kind=3) (hf:t.flds=[]) (hrg:0<=t.reg/\t.reg<n) (kd:Int) (hdep:depF ds 0 [t.elem]=some kd) (hkd0:0<=kd) (hkd:¬32<=kd):
 Calls Tryz.prog 147 #[.pointer (some ⟨g,0,none⟩),tyAgg t A c] w fun e' w'=>addP base g v.ownBlock n ds (addE ds n t) w e' w':=by
 have HF:Hid (addE ds n t=(0,kd+1)):=aF (by
  unfold addE;rw [aZ (by omega),aZ (by simp [hk,hf]),aZ (by omega),bA hk,hdep];simp only
  rw [aZ (by omega),aZ hkd])
 rw [HF.out];obtain ⟨x0,x1,f0,f1⟩:=dO hg;obtain ⟨i0,hi,hz0,hz1,hz2⟩:=info_parts eF;obtain ⟨B,d,rfl,hsl⟩:=dE hown;have HOWN:=aF hown;have HG:=aF hg;have HB:=aF hb;have hgw:g<w.heap.size:=by omega
 have hgl:=cY hgw;have hcb:=ht.big;have hcl:=ht.le;have HT:=aF ht;have hlen:=hsl.le;have hdb:=hsl.big;clear hown hg ht hb;unfold tyAgg;obtain ⟨k,mu,rg,el,fl⟩:=t;simp only at *;subst hk hf;simp only [bP];obtain ⟨hr1,hr2⟩:=hrg;have e1:decide (rg<0)=false:=by simp;omega
 have e2:¬n<=rg:=by omega
 have HBQ:Hid (∀m,Below w.heap.size w ((w.alloc (.cells #[.int .i64 3,.bool mu,.int .i64 rg,.int .i64 el,.slice A 0 c] 81)).drewN m)):=aF (fun m=>aG ((aX _ _).alloc (aY _) _) _);have e3:¬32<=kd:=by omega
 have HBAm:Hid (∀m,Below w.heap.size w ((((w.alloc (.cells #[.int .i64 3,.bool mu,.int .i64 rg,.int .i64 el,.slice A 0 c] 81)).drewN m).alloc (.cells #[.int .i64 el] 3)).alloc (.cells #[.int .i64 (kd+1)] 3))):=aF (fun m=>((HBQ.out m).alloc (by simp []) _).alloc (by simp [];omega) _);go_enter Tryz.func147,Tryz.ntmps147
 go_wp2_with fail
 go_quiet (fail)
 go_wp2_with (first
  | (go_at_call 181;refine (eC ds [el] g _ _ _ _ _ (cJ ((HBQ.out _).alloc (by simp []) _) x1) (hsl.keep RInt.keeps ((HBQ.out _).alloc (by simp []) _)) (gB _ _ _ _ (by rw [cZ];simp))).mono ?_;rintro e' w' ⟨rfl,hw⟩;obtain rfl:=hw.symm;rw [fB hdep];simp only [depQ])
  | (at_builtin;refine wpList_append_own _ rfl _ _ 58 rfl base 3 i0 (.int .i64 0) 1 8 Tryz.underlying58 hi hz0 hz1 hz2 rfl (by decide) _ _ _ rfl (dB HOWN.out (HBAm.out _)) ⟨_,0,none⟩ 1 1 [.int .i64 (kd+1)] rfl rfl (dZ _ _ _ _ (by simp [])) (ints_oneCell .i64 [kd+1]) (by unfold maxLen;omega) (by omega) (bZ HB.out (HBAm.out _).size) ?_;intro v' w2 hown' hgrow _;obtain ⟨B',d',rfl,_⟩:=hG hown';obtain ⟨y0,y1,f2,f3⟩:=dO (gS hgrow (HBAm.out _) HG.out HOWN.out hgb);have HFIN:=aF (iL (HBAm.out _) hgrow HOWN.out hown' HG.out hgb HB.out)))
 all_goals first
  | (exfalso;omega)
  | (go_ret;exact HFIN.out)
theorem tN (ds:List Int) (n:Int) (t:Ty) (g base:Nat) (v:Value) (A:Option Addr) (c:Nat) (w:World) (hg:w.heap[g]?=some (.cells #[.int .i64 n,v] 203)) (hown:w.ownsRow base 3 1 v ds.length (ds.map (Value.int .i64))) (hgb:g<base) (hb:base<=w.heap.size) (_hl:ds.length<=65535) (ht:Slc 1 RInt w A c t.flds) (hk:t.kind=4) (hmu:t.mu=false) (hreg:t.reg=0) (hel:t.elem=0) (hdep:depF ds 0 t.flds=none):
 Calls Tryz.prog 147 #[.pointer (some ⟨g,0,none⟩),tyAgg t A c] w fun e' w'=>addP base g v.ownBlock n ds (addE ds n t) w e' w':=by
 have HF:Hid (addE ds n t=(3,0)):=aF (by
  unfold addE;rw [aZ (by omega),aZ (by simp [hk,hmu,hreg,hel]),aZ (by omega),aZ (by omega),hdep]
  )
 rw [HF.out];obtain ⟨x0,x1,f0,f1⟩:=dO hg;obtain ⟨i0,hi,hz0,hz1,hz2⟩:=info_parts eF;obtain ⟨B,d,rfl,hsl⟩:=dE hown;have HOWN:=aF hown;have HG:=aF hg;have HB:=aF hb;have hgw:g<w.heap.size:=by omega
 have hgl:=cY hgw;have hcb:=ht.big;have hcl:=ht.le;have HT:=aF ht;have hlen:=hsl.le;have hdb:=hsl.big;clear hown hg ht hb;unfold tyAgg;obtain ⟨k,mu,rg,el,fl⟩:=t;simp only at *;subst hk hmu hreg hel;have HDEP:=aF (fun W (hb:Below w.heap.size w W)=>eC ds fl g A B c d W (cJ hb x1) (hsl.keep RInt.keeps hb) (HT.out.keep RInt.keeps hb));rw [fB hdep] at HDEP;simp only [depQ] at HDEP;obtain ⟨m,hm⟩:∃m,fl.length=m:=⟨_,rfl⟩;rw [hm] at HDEP hcl;rw [hm];clear hm HT HF;have HBW:Below w.heap.size w (w.alloc (.cells #[.int .i64 4,.bool false,.int .i64 0,.int .i64 0,.slice A m c] 81)):=(aX _ _).alloc (aY _) _;have HBD:=aF (fun (_:Nat)=>HBW);go_enter Tryz.func147,Tryz.ntmps147
 go_wp2_with (first
  | (go_at_call 181;refine (HDEP.out _ HBW).mono ?_;rintro e' w' ⟨rfl,hw⟩;obtain rfl:=hw.symm))
 all_goals first
  | (go_ret;exact eJ (Stp2.of_below (HBD.out 0)) (by omega))
  | (exfalso;omega)
theorem wG (ds:List Int) (n:Int) (t:Ty) (g base:Nat) (v:Value) (A:Option Addr) (c:Nat) (w:World) (hg:w.heap[g]?=some (.cells #[.int .i64 n,v] 203)) (hown:w.ownsRow base 3 1 v ds.length (ds.map (Value.int .i64))) (hgb:g<base) (hb:base<=w.heap.size) (_hl:ds.length<=65535) (ht:Slc 1 RInt w A c t.flds) (hk:t.kind=4) (hmu:t.mu=false) (hreg:t.reg=0) (hel:t.elem=0) (kd:Int) (hdep:depF ds 0 t.flds=some kd) (hlim:t.flds.length=0\/65535<t.flds.length):
 Calls Tryz.prog 147 #[.pointer (some ⟨g,0,none⟩),tyAgg t A c] w fun e' w'=>addP base g v.ownBlock n ds (addE ds n t) w e' w':=by
 have HF:Hid (addE ds n t=(15,0)):=aF (by
  unfold addE;rw [aZ (by omega),aZ (by simp [hk,hmu,hreg,hel]),aZ (by omega),aZ (by omega),hdep];simp only
  rw [bA ⟨hk,hlim⟩])
 rw [HF.out];obtain ⟨x0,x1,f0,f1⟩:=dO hg;obtain ⟨i0,hi,hz0,hz1,hz2⟩:=info_parts eF;obtain ⟨B,d,rfl,hsl⟩:=dE hown;have HOWN:=aF hown;have HG:=aF hg;have HB:=aF hb;have hgw:g<w.heap.size:=by omega
 have hgl:=cY hgw;have hcb:=ht.big;have hcl:=ht.le;have HT:=aF ht;have hlen:=hsl.le;have hdb:=hsl.big;clear hown hg ht hb;unfold tyAgg;obtain ⟨k,mu,rg,el,fl⟩:=t;simp only at *;subst hk hmu hreg hel;have HDEP:=aF (fun W (hb:Below w.heap.size w W)=>eC ds fl g A B c d W (cJ hb x1) (hsl.keep RInt.keeps hb) (HT.out.keep RInt.keeps hb));rw [fB hdep] at HDEP;simp only [depQ] at HDEP;obtain ⟨m,hm⟩:∃m,fl.length=m:=⟨_,rfl⟩;rw [hm] at HDEP hcl hlim;rw [hm];clear hm HT HF;have HBW:Below w.heap.size w (w.alloc (.cells #[.int .i64 4,.bool false,.int .i64 0,.int .i64 0,.slice A m c] 81)):=(aX _ _).alloc (aY _) _;have HBD:=aF (fun (_:Nat)=>HBW);rcases hlim with rfl | hlim
 all_goals
  go_enter Tryz.func147,Tryz.ntmps147
  go_wp2_with (first
   | (go_at_call 181;refine (HDEP.out _ HBW).mono ?_;rintro e' w' ⟨rfl,hw⟩;obtain rfl:=hw.symm))
  all_goals first
   | (go_ret;exact eJ (Stp2.of_below (HBD.out 0)) (by omega))
   | (exfalso;omega)
theorem tP (ds:List Int) (n:Int) (t:Ty) (g base:Nat) (v:Value) (A:Option Addr) (c:Nat) (w:World) (hg:w.heap[g]?=some (.cells #[.int .i64 n,v] 203)) (hown:w.ownsRow base 3 1 v ds.length (ds.map (Value.int .i64))) (hgb:g<base) (hb:base<=w.heap.size) (_hl:ds.length<=65535) (ht:Slc 1 RInt w A c t.flds) (hk:t.kind=4) (hmu:t.mu=false) (hreg:t.reg=0) (hel:t.elem=0) (kd:Int) (hdep:depF ds 0 t.flds=some kd) (hlim:¬(t.flds.length=0\/65535<t.flds.length)) (hkd:32<=kd):
 Calls Tryz.prog 147 #[.pointer (some ⟨g,0,none⟩),tyAgg t A c] w fun e' w'=>addP base g v.ownBlock n ds (addE ds n t) w e' w':=by
 have HF:Hid (addE ds n t=(19,0)):=aF (by
  unfold addE;rw [aZ (by omega),aZ (by simp [hk,hmu,hreg,hel]),aZ (by omega),aZ (by omega),hdep];simp only
  rw [aZ (by omega),bA hkd])
 rw [HF.out];obtain ⟨x0,x1,f0,f1⟩:=dO hg;obtain ⟨i0,hi,hz0,hz1,hz2⟩:=info_parts eF;obtain ⟨B,d,rfl,hsl⟩:=dE hown;have HOWN:=aF hown;have HG:=aF hg;have HB:=aF hb;have hgw:g<w.heap.size:=by omega
 have hgl:=cY hgw;have hcb:=ht.big;have hcl:=ht.le;have HT:=aF ht;have hlen:=hsl.le;have hdb:=hsl.big;clear hown hg ht hb;unfold tyAgg;obtain ⟨k,mu,rg,el,fl⟩:=t;simp only at *;subst hk hmu hreg hel;have HDEP:=aF (fun W (hb:Below w.heap.size w W)=>eC ds fl g A B c d W (cJ hb x1) (hsl.keep RInt.keeps hb) (HT.out.keep RInt.keeps hb));rw [fB hdep] at HDEP;simp only [depQ] at HDEP;obtain ⟨m,hm⟩:∃m,fl.length=m:=⟨_,rfl⟩;rw [hm] at HDEP hcl hlim;rw [hm];clear hm HT HF;have hl1:0<m:=by omega
 have hl2:m<=65535:=by omega
 have e4:((m:Int) == 0)=false:=by simp;omega
 have e5:¬(65535:Int)<(m:Int):=by omega
 clear hlim;have HBW:Below w.heap.size w (w.alloc (.cells #[.int .i64 4,.bool false,.int .i64 0,.int .i64 0,.slice A m c] 81)):=(aX _ _).alloc (aY _) _;have HBD:=aF (fun (_:Nat)=>HBW);go_enter Tryz.func147,Tryz.ntmps147
 go_wp2_with (first
  | (go_at_call 181;refine (HDEP.out _ HBW).mono ?_;rintro e' w' ⟨rfl,hw⟩;obtain rfl:=hw.symm))
 all_goals first
  | (go_ret;exact eJ (Stp2.of_below (HBD.out 0)) (by omega))
  | (exfalso;omega)
theorem tO (ds:List Int) (n:Int) (t:Ty) (g base:Nat) (v:Value) (A:Option Addr) (c:Nat) (w:World) (hg:w.heap[g]?=some (.cells #[.int .i64 n,v] 203)) (hown:w.ownsRow base 3 1 v ds.length (ds.map (Value.int .i64))) (hgb:g<base) (hb:base<=w.heap.size) (hl:ds.length<=65535) (ht:Slc 1 RInt w A c t.flds) (hk:t.kind=4) (hmu:t.mu=false) (hreg:t.reg=0) (hel:t.elem=0) (kd:Int) (hdep:depF ds 0 t.flds=some kd) (hlim:¬(t.flds.length=0\/65535<t.flds.length)) (hkd0:0<=kd) (hkd:¬32<=kd):
 Calls Tryz.prog 147 #[.pointer (some ⟨g,0,none⟩),tyAgg t A c] w fun e' w'=>addP base g v.ownBlock n ds (addE ds n t) w e' w':=by
 have HF:Hid (addE ds n t=(0,kd+1)):=aF (by
  unfold addE;rw [aZ (by omega),aZ (by simp [hk,hmu,hreg,hel]),aZ (by omega),aZ (by omega),hdep];simp only
  rw [aZ (by omega),aZ hkd])
 rw [HF.out];obtain ⟨x0,x1,f0,f1⟩:=dO hg;obtain ⟨i0,hi,hz0,hz1,hz2⟩:=info_parts eF;obtain ⟨B,d,rfl,hsl⟩:=dE hown;have HOWN:=aF hown;have HG:=aF hg;have HB:=aF hb;have hgw:g<w.heap.size:=by omega
 have hgl:=cY hgw;have hcb:=ht.big;have hcl:=ht.le;have HT:=aF ht;have hlen:=hsl.le;have hdb:=hsl.big;clear hown hg ht hb;unfold tyAgg;obtain ⟨k,mu,rg,el,fl⟩:=t;simp only at *;subst hk hmu hreg hel;have HDEP:=aF (fun W (hb:Below w.heap.size w W)=>eC ds fl g A B c d W (cJ hb x1) (hsl.keep RInt.keeps hb) (HT.out.keep RInt.keeps hb));rw [fB hdep] at HDEP;simp only [depQ] at HDEP;obtain ⟨m,hm⟩:∃m,fl.length=m:=⟨_,rfl⟩;rw [hm] at HDEP hcl hlim;rw [hm];clear hm HT HF;have hl1:0<m:=by omega
 have hl2:m<=65535:=by omega
 have e4:((m:Int) == 0)=false:=by simp;omega
 have e5:¬(65535:Int)<(m:Int):=by omega
 clear hlim;have HBW:Below w.heap.size w (w.alloc (.cells #[.int .i64 4,.bool false,.int .i64 0,.int .i64 0,.slice A m c] 81)):=(aX _ _).alloc (aY _) _;have HBD:=aF (fun (_:Nat)=>HBW);have e3:¬32<=kd:=by omega
 have HBA:Hid (Below w.heap.size w ((w.alloc (.cells #[.int .i64 4,.bool false,.int .i64 0,.int .i64 0,.slice A m c] 81)).alloc (.cells #[.int .i64 (kd+1)] 3))):=aF (HBW.alloc (by simp) _);go_enter Tryz.func147,Tryz.ntmps147
 go_wp2_with (first
  | (go_at_call 181;refine (HDEP.out _ HBW).mono ?_;rintro e' w' ⟨rfl,hw⟩;obtain rfl:=hw.symm)
  | (at_builtin;refine wpList_append_own _ rfl _ _ 58 rfl base 3 i0 (.int .i64 0) 1 8 Tryz.underlying58 hi hz0 hz1 hz2 rfl (by decide) _ _ _ rfl (dB HOWN.out HBA.out) ⟨_,0,none⟩ 1 1 [.int .i64 (kd+1)] rfl rfl (dZ _ _ _ _ (by simp)) (ints_oneCell .i64 [kd+1]) (by unfold maxLen;omega) (by omega) (bZ HB.out HBA.out.size) ?_;intro v' w2 hown' hgrow _;obtain ⟨B',d',rfl,_⟩:=hG hown';obtain ⟨y0,y1,f2,f3⟩:=dO (gS hgrow HBA.out HG.out HOWN.out hgb);have HFIN:=aF (iL HBA.out hgrow HOWN.out hown' HG.out hgb HB.out)))
 all_goals first
  | (exfalso;omega)
  | (go_ret;exact HFIN.out)
theorem nG (d:List Int):∀(l:List Int) (a k:Int),depF d a l=some k->a<=k
 | [],a,k,h=>by simp [depF] at h;omega
 | i :: r,a,k,h=>by
   rw [depF] at h;split at h
   ·cases h
   ·split at h
    ·cases h
    ·have:=nG d r _ k h;omega
theorem yX (ds:List Int) (n:Int) (t:Ty) (g base:Nat) (v:Value) (A:Option Addr) (c:Nat) (w:World) (hg:w.heap[g]?=some (.cells #[.int .i64 n,v] 203)) (hown:w.ownsRow base 3 1 v ds.length (ds.map (Value.int .i64))) (hgb:g<base) (hb:base<=w.heap.size) (hl:ds.length<=65535) (ht:Slc 1 RInt w A c t.flds):
 Calls Tryz.prog 147 #[.pointer (some ⟨g,0,none⟩),tyAgg t A c] w fun e' w'=>addP base g v.ownBlock n ds (addE ds n t) w e' w':=by
 by_cases h1:t.kind<0\/4<t.kind
 ·exact wD ds n t g base v A c w hg hown hgb hb hl ht h1
 by_cases h2:(t.kind≠3/\(t.mu=true\/t.reg≠0\/t.elem≠0))\/(t.kind≠4/\0<t.flds.length)
 ·exact wE ds n t g base v A c w hg hown hgb hb hl ht (by omega) (by omega) h2
 have hpl:t.kind≠3->t.mu=false/\t.reg=0/\t.elem=0:=fun h=>by
  by_cases hm:t.mu=true
  ·exact absurd (.inl ⟨h,.inl hm⟩) h2
  ·refine ⟨by simpa using hm,?_,?_⟩
   ·exact Decidable.byContradiction fun hr=>h2 (.inl ⟨h,.inr (.inl hr)⟩)
   ·exact Decidable.byContradiction fun hr=>h2 (.inl ⟨h,.inr (.inr hr)⟩)
 have hfl:t.kind≠4->t.flds=[]:=fun h=>by
  rcases Nat.eq_zero_or_pos t.flds.length with h0 | h0
  ·exact bV h0
  ·exact absurd (.inr ⟨h,h0⟩) h2
 by_cases h3:t.kind=3
 ·have hf:=hfl (by omega);by_cases hr:t.reg<0\/n<=t.reg
  ·exact yW ds n t g base v A c w hg hown hgb hb hl ht h3 hf hr
  ·cases hd:depF ds 0 [t.elem] with
   | none=>exact tQ ds n t g base v A c w hg hown hgb hb hl ht h3 hf (by omega) hd
   | some kd=>
     by_cases h32:32<=kd
     ·exact tS ds n t g base v A c w hg hown hgb hb hl ht h3 hf (by omega) kd hd h32
     ·exact tR ds n t g base v A c w hg hown hgb hb hl ht h3 hf (by omega) kd hd (nG _ _ _ _ hd) h32
 by_cases h4:t.kind=4
 ·obtain ⟨hm,hr,he⟩:=hpl h3;cases hd:depF ds 0 t.flds with
  | none=>exact tN ds n t g base v A c w hg hown hgb hb hl ht h4 hm hr he hd
  | some kd=>
    by_cases hlim:t.flds.length=0\/65535<t.flds.length
    ·exact wG ds n t g base v A c w hg hown hgb hb hl ht h4 hm hr he kd hd hlim
    ·by_cases h32:32<=kd
     ·exact tP ds n t g base v A c w hg hown hgb hb hl ht h4 hm hr he kd hd hlim h32
     ·exact tO ds n t g base v A c w hg hown hgb hb hl ht h4 hm hr he kd hd hlim (nG _ _ _ _ hd) h32
 exact wF ds n t g base v A c w hg hown hgb hb hl ht ⟨by omega,by omega,hpl,hfl,fun h=>absurd h h3⟩ (by omega)
theorem vN (w:World) (x y z u v:Value) (t:TypeId):∀i q,[x,y,z,u,v][i]?=some q->(w.alloc (.cells #[x,y,z,u,v] t)).cell? ⟨w.heap.size,i,none⟩=some q:=fun i q hi=>by
 rw [World.cell?_alloc_at _ _ _ _ (by simp)];simpa using hi
theorem Stp2.cell {row:Option Nat} {g:Nat} {w w':World} (h:Stp2 row g w w') {k i:Nat} (hk:k<w.heap.size) (hg:k≠g) (hr:some k≠row):w'.cell? ⟨k,i,none⟩=w.cell? ⟨k,i,none⟩:=by
 simp only [World.cell?,h.block k hk hg hr]
theorem mE (n:Int) (prev:List Ty) (d:List Int) (t:Ty) (r:List Ty):typesE n prev d (t :: r)=if (addE d n t).1=0 then (if t∈prev then 21 else typesE n (prev ++ [t]) (d ++ [(addE d n t).2]) r) else (addE d n t).1:=by
 rw [typesE,wY];by_cases h1:(addE d n t).1=0 <;> by_cases h2:t∈prev <;> simp [h1,h2]
theorem oY (ts:List Ty) (n:Int) (A:Option Addr) (c:Nat) (w:World) (hs:Slc 5 RTy w A c ts):
 Calls Tryz.prog 112 #[.slice A ts.length c,.int .i64 n] w fun e' w'=>e' = .returned (.int .i64 (typesC n ts))/\Below w.heap.size w w':=by
 have hle:=hs.le;have hbig:=hs.big;unfold typesC;by_cases h0:65535<ts.length
 ·rw [bA h0];clear hs;go_enter Tryz.func112,Tryz.ntmps112
  go_wp2_with fail
  go_ret;exact ⟨rfl,aX _ _⟩
 rw [aZ h0];obtain ⟨R,hR⟩:∃R,typesE n [] [] ts=R:=⟨_,rfl⟩;rw [hR];have HR:=aF hR;have HS:=aF hs;clear hR hs;go_enter Tryz.func112,Tryz.ntmps112
 go_wp2_with fail
 go_loopw [19] (fun i wr=>∃(k:Nat) (ds:List Int) (v:Value),k<=ts.length/\i = .int .i64 k/\Hid (ds.length=k)/\Hid (wr.heap[w.heap.size]?=some (.cells #[.int .i64 n,v] 203))/\Hid (wr.ownsRow (w.heap.size+1) 3 1 v ds.length (ds.map (Value.int .i64)))/\Hid (Below w.heap.size w wr)/\w.heap.size+1<=wr.heap.size/\Hid (R=typesE n (ts.take k) ds (ts.drop k))) (fun i _=>ts.length - (intOf i).toNat)
 case atStart=>
  refine ⟨0,[],.slice none 0 0,by omega,rfl,aF rfl,aF ?_,aF (World.ownsRow_nil _ _ _ _),aF ((aX _ _).alloc (aY _) _),by simp,aF HR.out.symm⟩;exact Array.getElem?_push_size
 case round=>
  obtain ⟨k,ds,v,hk,rfl,hdl,hg,hown,hB,hsz,hr⟩:=hrel;by_cases hlt:k<ts.length
  ·have hd:=cS hlt;obtain ⟨b,o,rfl,hb,hx⟩:=HS.out.sl.at_ hlt;have htk:Hid (ts.take (k+1)=ts.take k ++ [ts[k]]):=aF (bF hlt);obtain ⟨t,ht⟩:∃t,ts[k]=t:=⟨_,rfl⟩;rw [ht] at hd hx htk;obtain ⟨r1,r2,r3,r4,A2,c2,r5,r6,r7,r8⟩:=hx;have HFL:Hid (Slc 1 RInt w A2 c2 t.flds):=aF ⟨r8,r6,r7⟩;replace r1:=(hB.out.cell (p:=⟨b,o+k * 5,none⟩) hb).trans r1;replace r2:=(hB.out.cell (p:=⟨b,o+k * 5+1,none⟩) hb).trans r2;replace r3:=(hB.out.cell (p:=⟨b,o+k * 5+2,none⟩) hb).trans r3;replace r4:=(hB.out.cell (p:=⟨b,o+k * 5+3,none⟩) hb).trans r4;replace r5:=(hB.out.cell (p:=⟨b,o+k * 5+4,none⟩) hb).trans r5;obtain ⟨W1,hW1⟩:∃W1,W1=wr.alloc (.cells #[.int .i64 t.kind,.bool t.mu,.int .i64 t.reg,.int .i64 t.elem,.slice A2 t.flds.length c2] 81):=⟨_,rfl⟩;have hBW:Below w.heap.size w W1:=by rw [hW1];exact hB.out.alloc (by omega) _
   have hBW0:Below wr.heap.size wr W1:=by rw [hW1];exact (aX _ _).alloc (aY _) _
   have hW1s:W1.heap.size=wr.heap.size+1:=by rw [hW1];simp
   have hgW:W1.heap[w.heap.size]?=some (.cells #[.int .i64 n,v] 203):=(hBW0.block _ (by omega)).trans hg.out;have hrow:∀j,v.ownBlock=some j->w.heap.size+1<=j/\j<wr.heap.size:=fun j hj=>hown.out.lt j hj
   have HADD:=aF (yX ds n t w.heap.size (w.heap.size+1) v A2 c2 W1 hgW (dB hown.out hBW0) (by omega) (by omega) (by rw [hdl.out];omega) (HFL.out.keep RInt.keeps hBW));have HNEW:Hid (∀i q,[Value.int .i64 t.kind,.bool t.mu,.int .i64 t.reg,.int .i64 t.elem,.slice A2 t.flds.length c2][i]?=some q->W1.cell? ⟨wr.heap.size,i,none⟩=some q):=aF (by rw [hW1];exact vN wr _ _ _ _ _ _);have HROW:=aF hrow;have HBW:=aF hBW;have HW1S:=aF hW1s;have HN:Hid (R=if (addE ds n t).1=0 then (if t∈ts.take k then 21 else typesE n (ts.take k ++ [t]) (ds ++ [(addE ds n t).2]) (ts.drop (k+1))) else (addE ds n t).1):=aF (by rw [hr.out,hd];exact mE _ _ _ _ _);have HFIND:=aF (fun W (hb:Below w.heap.size w W)=>sO (ts.take k) t (some ⟨b,o,none⟩) A2 c c2 W ((HS.out.takeN k).keep RTy.keeps hb) (HFL.out.keep RInt.keeps hb));rw [List.length_take,Nat.min_eq_left hk] at HFIND
   have hcut:∀W,(Instr.slice 24 (.slice (some ⟨b,o,none⟩) ts.length c) none (some (.int .i64 (k:Int))) none).run Tryz.prog W = .ok (.slice (some ⟨b,o,none⟩) k c) W:=fun W=>by
    have:=uS (P:=Tryz.prog) 24 81 (some ⟨b,o,none⟩) ts.length c k 5 Tryz.underlying24 Tryz.sizeOf81 (by omega) hle W;simpa [cutA,Addr.add] using this
   generalize addE ds n t=q at HADD HN;obtain ⟨er,dp⟩:=q;simp only at HN;unfold tyAgg at HADD HFIND;rw [hW1] at HADD;clear hd hr r8 hgW hrow hBW hBW0 hW1s;by_cases he:er=0
   ·subst he;rw [bA rfl] at HN;have HCUT:=aF hcut;clear hcut;go_wp2_with (go_at_call 147;refine HADD.out.mono ?_;rintro e' w2 ⟨rfl,hst,hgd⟩;have HST:=aF hst;have HGD:=aF hgd;clear hst hgd)
    have hst:=HST.out;rw [<- hW1] at hst;have hB2:Below w.heap.size w w2:=HBW.out.trans (hst.below (aY _) (fun j hj=>by have:=(HROW.out j hj).1;omega) HBW.out.size)
    have hnew:∀i q,[Value.int .i64 t.kind,.bool t.mu,.int .i64 t.reg,.int .i64 t.elem,.slice A2 t.flds.length c2][i]?=some q->w2.cell? ⟨wr.heap.size,i,none⟩=some q:=fun i q hi=>
     (hst.cell (by rw [HW1S.out];omega) (by omega) (fun e=>by have:=(HROW.out _ e.symm).2;omega)).trans (HNEW.out i q hi)
    obtain ⟨y0,y1,y2,y3,y4⟩:=aQ hnew;have hcut:=HCUT.out;have hsz2:wr.heap.size+1<=w2.heap.size:=by have:=hst.size;rw [HW1S.out] at this;exact this
    have HB2:=aF hB2;have HFI:=aF (HFIND.out w2.drew hB2.drew);obtain ⟨v',hg',hown'⟩:=HGD.out (by simp);have HG':=aF hg';have HOWN':=aF hown';clear hst hnew hB2 hg' hown';have hS:w2.drew.cell? ⟨wr.heap.size,0,none⟩=some (.int .i64 t.kind)/\w2.drew.cell? ⟨wr.heap.size,1,none⟩=some (.bool t.mu)/\w2.drew.cell? ⟨wr.heap.size,2,none⟩=some (.int .i64 t.reg)/\w2.drew.cell? ⟨wr.heap.size,3,none⟩=some (.int .i64 t.elem)/\w2.drew.cell? ⟨wr.heap.size,4,none⟩=some (.slice A2 t.flds.length c2):=⟨y0,y1,y2,y3,y4⟩;refine eM (S:=fun X=>X.cell? ⟨wr.heap.size,0,none⟩=some (.int .i64 t.kind)/\X.cell? ⟨wr.heap.size,1,none⟩=some (.bool t.mu)/\X.cell? ⟨wr.heap.size,2,none⟩=some (.int .i64 t.reg)/\X.cell? ⟨wr.heap.size,3,none⟩=some (.int .i64 t.elem)/\X.cell? ⟨wr.heap.size,4,none⟩=some (.slice A2 t.flds.length c2)) (by kernel_rfl) ?_;(iterate 4 (refine dG (v:=?_) (by kernel_rfl) (fun _ _ _ h=>h) (Or.inl ⟨by rfl,?_⟩) hS ?_;rotate_left;(next=>(rintro X ⟨s0,s1,s2,s3,s4⟩;(try simp only [aJ]);go_simp;rfl));simp only [aJ,Act.put,aK]));(refine mD (by kernel_rfl) (fun K1 hK1=>?_);simp only [aJ,Act.put,aK];rw [bA (by rfl)];go_simp);refine HFI.out.mono ?_;rintro e' w3 ⟨⟨i,rfl⟩,hb3⟩;replace hS:=(⟨cJ hb3 hS.1,cJ hb3 hS.2.1,cJ hb3 hS.2.2.1,cJ hb3 hS.2.2.2.1,cJ hb3 hS.2.2.2.2⟩:w3.cell? ⟨wr.heap.size,0,none⟩=some (.int .i64 t.kind)/\w3.cell? ⟨wr.heap.size,1,none⟩=some (.bool t.mu)/\w3.cell? ⟨wr.heap.size,2,none⟩=some (.int .i64 t.reg)/\w3.cell? ⟨wr.heap.size,3,none⟩=some (.int .i64 t.elem)/\w3.cell? ⟨wr.heap.size,4,none⟩=some (.slice A2 t.flds.length c2));refine hK1.out _ _ (fun _=>hS) ?_;(iterate 5 (refine dG (v:=?_) (by kernel_rfl) (fun _ _ _ h=>h) (Or.inl ⟨by rfl,?_⟩) hS ?_;rotate_left;(next=>(rintro X ⟨s0,s1,s2,s3,s4⟩;(try simp only [aJ]);go_simp;rfl));simp only [aJ,Act.put,aK]));refine eW rfl ?_;clear hS;by_cases hm:t∈ts.take k
    ·have HF:Hid (R=21):=aF (by rw [HN.out,bA hm]);have hmd:decide (t∈ts.take k)=true:=(by simp [hm]);rw [hmd];clear hm hmd HN;go_wp2_with fail
     go_ret;exact ⟨by rw [HF.out];rfl,HB2.out.drew.trans (hb3.mono HB2.out.drew.size)⟩
    ·have HF:Hid (R=typesE n (ts.take (k+1)) (ds ++ [dp]) (ts.drop (k+1))):=aF (by rw [HN.out,aZ hm,htk.out]);have hmd:decide (t∈ts.take k)=false:=(by simp [hm]);rw [hmd];clear hm hmd HN;go_wp2_with fail
     go_roundw
     case rel=>
      have hb3':Below w2.heap.size w2 w3:=(aX _ _).drew.trans hb3;have hl:(ds ++ [dp]).length=k+1:=by rw [bB,hdl.out];rfl
      exact ⟨k+1,ds ++ [dp],v',by omega,by go_num,aF hl,aF ((hb3'.block _ (by omega)).trans HG'.out),aF (dB HOWN'.out hb3'),aF (HB2.out.drew.trans (hb3.mono HB2.out.drew.size)),bZ (by omega) hb3'.size,HF⟩
     case measure=>simp [intOf];omega
   ·rw [aZ he] at HN;have e1:(er != 0)=true:=by simp [he]
    clear hcut;go_wp2_with (go_at_call 147;refine HADD.out.mono ?_;rintro e' w2 ⟨rfl,hst,hgd⟩;have HST:=aF hst;clear hst hgd)
    go_ret;refine ⟨by rw [HN.out];rfl,HBW.out.trans ?_⟩;rw [hW1];exact HST.out.below (aY _) (fun j hj=>by have:=(HROW.out j hj).1;omega) (by simp;omega)
  ·have HN:Hid (R=0):=aF (by rw [hr.out,bE (by omega)];rfl);clear hr hg hown;go_wp2_with fail
   go_ret;exact ⟨by rw [HN.out];rfl,hB.out⟩
end
section
open Go Go.RowKit Go.Maps
def relL (pairs:List (Int × Int)) (s:Bool) (x:Int):List Int:=if s=true then (pairs.filter (fun p=>decide (p.2=x))).map (·.1) else (pairs.filter (fun p=>decide (p.1=x))).map (·.2)
theorem rE (l:List (Int × Int)) (p:Int × Int):relL (l ++ [p])=updL (updL (relL l) false p.1 (relL l false p.1 ++ [p.2])) true p.2 (relL l true p.2 ++ [p.1]):=by
 funext s x
 cases s
 ·simp only [relL,updL,Bool.false_eq_true,if_false,false_and,true_and,List.filter_append,bU];by_cases h:x=p.1
  ·subst h;simp
  ·have:¬p.1=x:=fun e=>h e.symm
   simp [h,this]
 ·simp only [relL,updL,if_true,true_and,List.filter_append,bU];by_cases h:x=p.2
  ·subst h;simp
  ·have:¬p.2=x:=fun e=>h e.symm
   simp [h,this]
theorem jM (l:List (Int × Int)) (s:Bool) (x:Int):(relL l s x).length<=l.length:=by
 unfold relL;split <;> (rw [cF];exact List.length_filter_le _ _)
theorem iV {n:Int}:∀(l:List (Int × Int)) (q:Option (Int × Int)),pairsE n q l=0->∀p∈l,0<=p.1/\p.1<n/\0<=p.2/\p.2<n
 | [],_,_,p,hp=>by simp at hp
 | x :: r,q,h,p,hp=>by
   rw [gZ] at h;by_cases h0:pairE n q x=0
   ·rw [bA h0] at h;rcases List.mem_cons.1 hp with rfl | hp
    ·unfold pairE at h0;split at h0
     ·cases h0
     ·omega
    ·exact iV r _ h p hp
   ·rw [aZ h0] at h;exact absurd h h0
theorem iX {n:Int} {l:List (Int × Int)} (h:pairsC n l=0):l.length<=65535/\∀p∈l,0<=p.1/\p.1<n/\0<=p.2/\p.2<n:=by
 unfold pairsC at h;split at h
 ·cases h
 ·exact ⟨by omega,iV l _ h⟩
theorem cell_of_heap {X W:World} {k:Nat} (h:X.heap[k]?=W.heap[k]?) (i:Nat):X.cell? ⟨k,i,none⟩=W.cell? ⟨k,i,none⟩:=by
 simp only [World.cell?,h]
theorem qN {w:World} {k:Nat} {a b:Value} {t:TypeId} (h:w.heap[k]?=some (.cells #[a,b] t)):w.cell? ⟨k,0,none⟩=some a/\w.cell? ⟨k,1,none⟩=some b:=by
 simp [World.cell?,h]
theorem gW {w:World} {k:Nat} {a b c:Value} {t:TypeId} (h:w.heap[k]?=some (.cells #[a,b,c] t)):w.cell? ⟨k,0,none⟩=some a/\w.cell? ⟨k,1,none⟩=some b/\w.cell? ⟨k,2,none⟩=some c:=by
 simp [World.cell?,h]
theorem oU (X:World) (o:Obj) (k:Nat) (hk:k=X.heap.size):(X.alloc o).heap[k]?=some o:=by
 subst hk;exact Array.getElem?_push_size
def mapsAt (k:Nat) (s:Bool):Nat:=if s=true then k+1 else k
theorem kB {P:Program} {o:Oper} {a:Act} {w:World} {K:Act->World->Prop} {Q:Exit->Act->World->Prop} (m x v:Operand) (t:TypeId) (ho:o.op = .mapUpdate t m x v) {b:Nat} {key val:Value} (hm:a.eval m = .map (some b)) (hx:a.eval x=key) (hv:a.eval v=val)
 {w':World} (hrun:(Instr.mapUpdate t (.map (some b)) key val).run P w = .ok () w') (h:K (a.put o.dst undef) w'):o.wp P a w K Q:=by
 unfold Oper.wp;simp [execOp,ho,hm,hx,hv,hrun,Result.andThen];exact h
end
section
open Go Go.RowKit
inductive Rch (pairs:List (Int × Int)):Int->Int->Prop
 | refl (a:Int):Rch pairs a a
 | step {a x y:Int}:Rch pairs a x->(x,y)∈pairs->Rch pairs a y
theorem Rch.trans {pairs:List (Int × Int)} {a b c:Int} (h:Rch pairs a b) (h2:Rch pairs b c):Rch pairs a c:=by
 induction h2 with
 | refl=>exact h
 | step _ hp ih=>exact .step ih hp
theorem Rch.one {pairs:List (Int × Int)} {x y:Int} (h:(x,y)∈pairs):Rch pairs x y:= .step (.refl x) h
theorem Rch.closed {pairs:List (Int × Int)} {S:Int->Prop} (hc:∀x y,S x->(x,y)∈pairs->S y) {a b:Int} (h:Rch pairs a b) (ha:S a):S b:=by
 induction h with
 | refl=>exact ha
 | step _ hp ih=>exact hc _ _ ih hp
theorem fA:∀(n:Nat) (l:List Int),l.Nodup->(∀x∈l,0<=x/\x<n)->l.length<=n
 | 0,l,_,h=>by
   cases l with
   | nil=>simp
   | cons x r=>have:=h x (by simp);omega
 | n+1,l,hn,h=>by
   have h1:=fA n (l.erase (n:Int)) (hn.erase _) (fun x hx=>by
    have hm:=(hn.mem_erase_iff).1 hx;have:=h x hm.2;have:=hm.1
    omega)
   rw [List.length_erase] at h1;split at h1 <;> omega
theorem pR (pairs:List (Int × Int)) (x:Int):∀(set:List Int),∃new,nextR pairs x set=set ++ new/\(∀y∈new,(x,y)∈pairs)/\(set.Nodup->(set ++ new).Nodup)/\∀y,(x,y)∈pairs->y∈set ++ new:=by
 unfold nextR;induction pairs with
 | nil=>exact fun set=>⟨[],by simp,by simp,by simp,by simp⟩
 | cons p r ih=>
   intro set;obtain ⟨p1,p2⟩:=p;rw [List.foldl_cons];by_cases hp:p1=x/\p2∉set
   ·rw [bA hp];obtain ⟨new,h1,h2,h3,h4⟩:=ih (set ++ [p2]);refine ⟨p2 :: new,by rw [h1];simp,?_,?_,?_⟩
    ·intro y hy;rcases List.mem_cons.1 hy with rfl | hy
     ·rw [<- hp.1];exact List.mem_cons_self
     ·exact List.mem_cons_of_mem _ (h2 y hy)
    ·intro hn
     have:(set ++ [p2]).Nodup:=by
      rw [List.nodup_append];refine ⟨hn,by simp,fun a ha b hb=>?_⟩;rw [bS] at hb;subst hb;exact fun e=>hp.2 (e ▸ ha)
     have:=h3 this;simpa using this
    ·intro y hy;rcases List.mem_cons.1 hy with he | hy
     ·injection he with _ he
      subst he;simp
     ·have:=h4 y hy;simpa using this
   ·rw [aZ hp];obtain ⟨new,h1,h2,h3,h4⟩:=ih set;refine ⟨new,h1,fun y hy=>List.mem_cons_of_mem _ (h2 y hy),h3,fun y hy=>?_⟩;rcases List.mem_cons.1 hy with he | hy
    ·injection he with e1 e2
     subst e1 e2;by_cases hm:y∈set
     ·exact List.mem_append_left _ hm
     ·exact absurd ⟨rfl,hm⟩ hp
    ·exact h4 y hy
theorem lM {pairs:List (Int × Int)} {n:Nat} (hr:∀p∈pairs,0<=p.1/\p.1<(n:Int)/\0<=p.2/\p.2<(n:Int)) (b:Int):∀(f:Nat) (set:List Int) (i:Nat),(∀x∈set,0<=x/\x<(n:Int))->set.Nodup->i<=set.length->n<f+i->
 (∀j x y,j<i->set[j]?=some x->(x,y)∈pairs->y∈set)->(∀j x,j<i->set[j]?=some x->x≠b)->(outF pairs b f set i=true↔∃z∈set,Rch pairs z b)
 | 0,set,i,h1,h2,h3,h4,_,_=>by
   have:=fA n set h2 h1;omega
 | f+1,set,i,h1,h2,h3,h4,h5,h6=>by
   rw [outF];cases hx:set[i]? with
   | none=>
     have hi:set.length<=i:=(by simpa using hx);constructor
     ·intro h;cases h
     ·rintro ⟨z,hz,hzb⟩
      have hb:b∈set:=Rch.closed (S:=fun x=>x∈set) (fun x y hxm hp=>by
       obtain ⟨j,hj,he⟩:=List.mem_iff_getElem.1 hxm
       exact h5 j x y (by omega) (by rw [bD hj,he]) hp) hzb hz
      obtain ⟨j,hj,he⟩:=List.mem_iff_getElem.1 hb;exact absurd rfl (h6 j b (by omega) (by rw [bD hj,he]))
   | some x=>
     have hxm:x∈set:=List.mem_of_getElem? hx;simp only;by_cases hxb:x=b
     ·rw [bA hxb];subst hxb;exact ⟨fun _=>⟨x,hxm,.refl x⟩,fun _=>rfl⟩
     ·rw [aZ hxb];obtain ⟨new,n1,n2,n3,n4⟩:=pR pairs x set;rw [n1];have hi:i<set.length:=(List.getElem?_eq_some_iff.1 hx).1;have hold:∀j u,j<set.length->((set ++ new)[j]?=some u↔set[j]?=some u):=fun j u hj=>by rw [List.getElem?_append_left hj]
      have g1:∀y∈set ++ new,0<=y/\y<(n:Int):=fun y hy=>by
       rcases List.mem_append.1 hy with hy | hy
       ·exact h1 y hy
       ·have:=hr _ (n2 y hy);exact ⟨this.2.2.1,this.2.2.2⟩
      have g2:∀j u y,j<i+1->(set ++ new)[j]?=some u->(u,y)∈pairs->y∈set ++ new:=by
       intro j u y hj hu hp;rw [hold j u (by omega)] at hu;rcases Nat.lt_or_ge j i with hji | hji
       ·exact List.mem_append_left _ (h5 j u y hji hu hp)
       ·have:j=i:=by omega
        subst this;rw [hx] at hu;injection hu with hu
        subst hu;exact n4 y hp
      have g3:∀j u,j<i+1->(set ++ new)[j]?=some u->u≠b:=by
       intro j u hj hu;rw [hold j u (by omega)] at hu;rcases Nat.lt_or_ge j i with hji | hji
       ·exact h6 j u hji hu
       ·have:j=i:=by omega
        subst this;rw [hx] at hu;injection hu with hu
        subst hu;exact hxb
      rw [lM hr b f (set ++ new) (i+1) g1 (n3 h2) (by rw [bB];omega) (by omega) g2 g3];constructor
      ·rintro ⟨z,hz,hzb⟩;rcases List.mem_append.1 hz with hz | hz
       ·exact ⟨z,hz,hzb⟩
       ·exact ⟨x,hxm,(Rch.one (n2 z hz)).trans hzb⟩
      ·rintro ⟨z,hz,hzb⟩;exact ⟨z,List.mem_append_left _ hz,hzb⟩
theorem vC {pairs:List (Int × Int)} {n:Nat} (hr:∀p∈pairs,0<=p.1/\p.1<(n:Int)/\0<=p.2/\p.2<(n:Int)) {a b:Int} (ha:0<=a) (ha2:a<n) (hb:0<=b) (hb2:b<n):
 outB pairs n a b=true↔Rch pairs a b:=by
 unfold outB;rw [aZ (by omega)];rw [lM hr b _ [a] 0 (by simp;omega) (by simp) (by simp) (by simp) (by intro j x y hj;omega) (by intro j x hj;omega)];simp
end
section
open Go Go.RowKit
structure Qat (w:World) (base:Nat) (e:TypeId) (g p n cap:Nat) (cur:Array Value) (xs:List Value):Prop where
 low:base<=g
 heap:w.heap[g]?=some (.cells cur e (0,0))
 len:xs.length=n
 le:n<=cap
 big:cap<=9223372036854775807
 fit:p+cap<=cur.size
 row:(cur.toList.drop p).take n=xs
def Qu (w:World) (base:Nat) (e:TypeId) (v:Value) (xs:List Value):Prop:=
 (v = .slice none 0 0/\xs=[])\/∃g p n cap cur,v = .slice (some ⟨g,p,none⟩) n cap/\Qat w base e g p n cap cur xs
theorem Qat.cell {w:World} {base g p n cap:Nat} {e:TypeId} {cur:Array Value} {xs:List Value} (h:Qat w base e g p n cap cur xs) (j:Nat) (u:Value) (hj:xs[j]?=some u):w.cell? ⟨g,p+j,none⟩=some u:=by
 have hlt:j<n:=by rw [<- h.len];exact (List.getElem?_eq_some_iff.1 hj).1
 rw [<- h.row,List.getElem?_take,bA hlt,List.getElem?_drop] at hj;simp only [World.cell?,h.heap];simpa using hj
theorem Qu.lt {w:World} {base:Nat} {e:TypeId} {v:Value} {xs:List Value} (h:Qu w base e v xs):∀k,v.ownBlock=some k->base<=k/\k<w.heap.size:=by
 rcases h with ⟨rfl,_⟩ | ⟨g,p,n,cap,cur,rfl,hq⟩
 ·intro k hk;cases hk
 ·intro k hk;injection hk with hk
  subst hk;exact ⟨hq.low,(Array.getElem?_eq_some_iff.1 hq.heap).1⟩
theorem Qu.block {w w':World} {base:Nat} {e:TypeId} {v:Value} {xs:List Value} (h:Qu w base e v xs) (hb:∀k,v.ownBlock=some k->w'.heap[k]?=w.heap[k]?):Qu w' base e v xs:=by
 rcases h with ⟨rfl,hx⟩ | ⟨g,p,n,cap,cur,rfl,hq⟩
 ·exact .inl ⟨rfl,hx⟩
 ·exact .inr ⟨g,p,n,cap,cur,rfl,hq.low,(hb g rfl).trans hq.heap,hq.len,hq.le,hq.big,hq.fit,hq.row⟩
theorem Qu.below {w w':World} {base:Nat} {e:TypeId} {v:Value} {xs:List Value} (h:Qu w base e v xs) (hb:Below w.heap.size w w'):Qu w' base e v xs:=
 h.block (fun k hk=>hb.block k (h.lt k hk).2)
theorem Qu.slice {w:World} {base:Nat} {e:TypeId} {v:Value} {xs:List Value} (h:Qu w base e v xs):∃A c,v = .slice A xs.length c/\xs.length<=c/\c<=9223372036854775807:=by
 rcases h with ⟨rfl,rfl⟩ | ⟨g,p,n,cap,cur,rfl,hq⟩
 ·exact ⟨none,0,rfl,by simp,by omega⟩
 ·exact ⟨_,cap,by rw [hq.len],by rw [hq.len];exact hq.le,hq.big⟩
theorem Qu.one (W:World) (base:Nat) (e:TypeId) (x:Value) (k:Nat) (hk:k=W.heap.size) (hb:base<=k):Qu (W.alloc (.cells #[x] e)) base e (.slice (some ⟨k,0,none⟩) 1 1) [x]:=by
 subst hk;exact .inr ⟨_,0,1,1,#[x],rfl,hb,Array.getElem?_push_size,rfl,by omega,by omega,by simp,by simp⟩
theorem Qu.tail {w:World} {base:Nat} {e:TypeId} {x:Value} {r:List Value} {A:Option Addr} {n c:Nat} (h:Qu w base e (.slice A n c) (x :: r)):
 ∃g p,A=some ⟨g,p,none⟩/\n=r.length+1/\n<=c/\c<=9223372036854775807/\w.cell? ⟨g,p,none⟩=some x/\Qu w base e (.slice (if c=1 then A else A.map (·.add (1 * 1))) (n - 1) (c - 1)) r:=by
 rcases h with ⟨_,h⟩ | ⟨g,p,n',cap,cur,hv,hq⟩
 ·cases h
 ·obtain ⟨rfl,rfl,rfl⟩:A=some ⟨g,p,none⟩/\n=n'/\c=cap:=by simpa using hv
  have hl:=hq.len;simp only [bK] at hl;refine ⟨g,p,rfl,by omega,hq.le,hq.big,by simpa using hq.cell 0 x rfl,?_⟩;have hle:=hq.le;have hbig:=hq.big;have hfit:=hq.fit;by_cases h1:c=1
  ·rw [bA h1];refine .inr ⟨g,p,n - 1,c - 1,cur,rfl,hq.low,hq.heap,by omega,by omega,by omega,by omega,?_⟩;have hr0:r=[]:=bV (by omega);have:n - 1=0:=by omega
   rw [this,List.take_zero,hr0]
  ·rw [aZ h1];refine .inr ⟨g,p+1,n - 1,c - 1,cur,by simp [Addr.add],hq.low,hq.heap,by omega,by omega,by omega,by omega,?_⟩;have hr:=hq.row;rw [<- List.drop_drop];cases hd:cur.toList.drop p with
   | nil=>rw [hd] at hr;simp at hr
   | cons y t=>
     rw [hd,show n=(n - 1)+1 by omega,List.take_succ_cons] at hr;have hr2:=(List.cons.inj hr).2;simpa using hr2
section
variable {P:Program}
theorem fK (w:World) (t ty e:TypeId) (i:TypeInfo) (ht:P.underlying t=some (.slice e)) (hi:P.info? e=some i)
 (g p sLen sCap:Nat) (cur:Array Value) (hg:w.heap[g]?=some (.cells cur e (0,0)))
 (a:Addr) (m c:Nat) (news:List Value) (hl:news.length=m * i.size) (hnews:∀j u,news[j]?=some u->w.cell? (a.add j)=some u) (h1:∀u∈news,u.oneCell'=true)
 (hroom:sLen+m<=sCap) (hfit:p+sLen * i.size+news.length<=cur.size):
 (Builtin.append_ #[t,t] ty #[.slice (some ⟨g,p,none⟩) sLen sCap,.slice (some a) m c]).run P w =
   .ok (.slice (some ⟨g,p,none⟩) (sLen+m) sCap) (w.setRow g (cur.toList.take (p+sLen * i.size) ++ news ++ cur.toList.drop (p+sLen * i.size+news.length)).toArray):=by
 have hf:=run_firstCells_some (P:=P) w i.size m a m c news hl hnews;have hst:=run_storeCells_at P g (p+sLen * i.size) e news 0 cur w hg (by simpa using hfit) h1;simp only [Nat.add_zero] at hst;simp [Builtin.append_,run_underlying ht,sizeOf,typeInfo,hi,Builtin.lenOf,hroom,hf,Addr.add_lit,hst]
theorem Qu.append {w:World} {base:Nat} {t ty e:TypeId} {i:TypeInfo} {z:Value} (ht:P.underlying t=some (.slice e)) (hi:P.info? e=some i) (hz:i.zero=some z) (hsize:i.size=1) (hby:i.bytes<=16) (hzs:z.cells.size=1)
 {v:Value} {xs:List Value} (h:Qu w base e v xs) (a:Addr) (c:Nat) (x:Value) (hx:w.cell? a=some x) (h1:x.oneCell'=true) (hlen:xs.length+1<=1099511627776) (hb:base<=w.heap.size):
 ∃v' w',(Builtin.append_ #[t,t] ty #[v,.slice (some a) 1 c]).run P w = .ok v' w'/\Qu w' base e v' (xs ++ [x])/\w.grownBy w' v.ownBlock:=by
 have hnews:∀j u,[x][j]?=some u->w.cell? (a.add j)=some u:=fun j u hj=>by
  cases j with
  | zero=>
    simp at hj;subst hj;simpa [Addr.add] using hx
  | succ j=>simp at hj
 have grown:∀(old:Nat) (row:Option Nat),Qu (w.drew.alloc (.cells (xs.toArray ++ [x].toArray ++ Builtin.zeroCells z.cells (grownCap w (xs.length+1) old e - (xs.length+1))) e)) base e (.slice (some ⟨w.heap.size,0,none⟩) (xs.length+1) (grownCap w (xs.length+1) old e)) (xs ++ [x])/\
  w.grownBy (w.drew.alloc (.cells (xs.toArray ++ [x].toArray ++ Builtin.zeroCells z.cells (grownCap w (xs.length+1) old e - (xs.length+1))) e)) row:=by
  intro old row;have hge:=grownCap_ge w (xs.length+1) old e;have hcm:grownCap w (xs.length+1) old e<=maxLen:=grownCap_le_maxLen w (xs.length+1) old e (by unfold maxLen;omega)
  have hs:(xs.toArray ++ [x].toArray ++ Builtin.zeroCells z.cells (grownCap w (xs.length+1) old e - (xs.length+1))).size=grownCap w (xs.length+1) old e:=by
   simp only [Array.size_append,List.size_toArray,size_zeroCells,hzs,cG];omega
  refine ⟨.inr ⟨w.heap.size,0,xs.length+1,_,_,rfl,hb,heap_alloc_new w.drew _,by simp,hge,by unfold maxLen at hcm;omega,by rw [hs];omega,?_⟩,⟨rfl,rfl,rfl,by simp,fun k hk _=>heap_alloc_old w.drew _ hk⟩⟩;simp only [Array.toList_append,bX];have:(xs ++ [x]).length=xs.length+1:=by simp
  rw [<- this];exact List.take_left
 rcases h with ⟨rfl,rfl⟩ | ⟨g,p,n,cap,cur,rfl,hq⟩
 ·have hrun:=run_append_nil (P:=P) w t ty e i z ht hi hz a 1 c [x] (by simp [hsize]) hnews (by omega) (by omega) (by omega);refine ⟨_,_,hrun,?_⟩;have:=grown 0 (Value.slice none 0 0).ownBlock;simpa using this
 ·have hl:=hq.len;by_cases hroom:n+1<=cap
  ·have hfit:=hq.fit;have hrun:=fK (P:=P) w t ty e i ht hi g p n cap cur hq.heap a 1 c [x] (by simp [hsize]) hnews (by simpa using h1) hroom (by rw [hsize];simp;omega);rw [hsize,Nat.mul_one] at hrun;refine ⟨_,_,hrun,.inr ⟨g,p,n+1,cap,(cur.toList.take (p+n) ++ [x] ++ cur.toList.drop (p+n+[x].length)).toArray,rfl,hq.low,?_,by simp [hl],hroom,hq.big,?_,?_⟩,?_⟩
   ·exact setRow_heap w g cur _ e (0,0) hq.heap
   ·simp;omega
   ·have hA:(cur.toList.take (p+n)).drop p=xs:=by
     rw [<- hq.row,List.drop_take,show p+n - p=n by omega]
    have hp:p<=(cur.toList.take (p+n)).length:=by simp;omega
    simp only [cG,bM];rw [List.drop_append_of_le_length hp,hA,List.take_append,List.take_of_length_le (by omega),hl,show n+1 - n=1 by omega];rfl
   ·exact ⟨rfl,rfl,rfl,by simp,fun k _ hk=>setRow_other w g k _ (fun h=>hk (by rw [h];rfl))⟩
  ·have hby2:(n+1) * i.bytes<=140737488355328:=by
    have h2:(n+1) * i.bytes<=(n+1) * 16:=Nat.mul_le_mul_left _ hby;omega
   have hold:∀j u,xs[j]?=some u->w.cell? ((⟨g,p,none⟩:Addr).add j)=some u:=fun j u hj=>by rw [Addr.add_lit];exact hq.cell j u hj
   have hfit:=growslice_fits (need:=n+1) (old:=cap) (bytes:=i.bytes) (by omega) hby2;have h63:((n+1:Nat):Int)<=9223372036854775807:=by omega
   have hg1:cap<n+1:=by omega
   have hlo:xs.length=n * i.size:=by rw [hsize,hl,Nat.mul_one]
   have hln:[x].length=1 * i.size:=by rw [hsize];rfl
   have hrun:=run_append_grow (P:=P) w t ty e i z ht hi hz ⟨g,p,none⟩ n cap xs hlo hold a 1 c [x] hln hnews hg1 h63 hfit;subst hl;exact ⟨_,_,hrun,grown cap _⟩
end
theorem iM {P:Program} (w:World) {ops:Array Oper} {rest:List Oper} {o:Oper} {a:Act} {Q:Exit->Act->World->Prop} (hgd:o.guard=none) (s x:Operand) (t:TypeId)
 (ho:o.op = .call { callee:= .builtin .append,args:= #[s,x],argTypes:= #[t,t] }) (base:Nat) (e:TypeId) (i:TypeInfo) (z:Value) (ht:P.underlying t=some (.slice e)) (hi:P.info? e=some i) (hz:i.zero=some z) (hsize:i.size=1) (hby:i.bytes<=16) (hzs:z.cells.size=1)
 (v:Value) (xs:List Value) (hs:a.eval s=v) (h:Qu w base e v xs) (ad:Addr) (c:Nat) (y:Value) (hx:a.eval x = .slice (some ad) 1 c) (hy:w.cell? ad=some y) (h1:y.oneCell'=true) (hlen:xs.length+1<=1099511627776) (hb:base<=w.heap.size)
 (hK:∀v' w',Qu w' base e v' (xs ++ [y])->w.grownBy w' v.ownBlock->wpList P ops Q rest (a.put o.dst v') w'):wpList P ops Q (o :: rest) a w:=by
 refine wpList_plain hgd fun K' hK'=>?_
 obtain ⟨v',w',hrun,h2,h3⟩:=h.append (ty:=o.type) ht hi hz hsize hby hzs ad c y hy h1 hlen hb;unfold Oper.wp execOp;simp only [ho,resolve,invoke,builtin,Sem.run_bind,Sem.run_pure,Result.andThen_ok,List.map_toArray,List.map_cons,List.map_nil,hs,hx,hrun];exact hK' _ _ (hK v' w' h2 h3)
end
section
open Go Go.RowKit Go.Maps
theorem nC (r:Nat) (n a:Int) (w:World) (x0:w.cell? ⟨r,0,none⟩=some (.int .i64 n)):
 Calls Tryz.prog 210 #[.pointer (some ⟨r,0,none⟩),.int .i64 a] w fun e' w'=>e' = .returned (.bool (decide (0<=a) && decide (a<n)))/\w'=w:=by
 obtain ⟨q,hq⟩:∃q,(decide (0<=a) && decide (a<n))=q:=⟨_,rfl⟩;rw [hq];have HQ:=aF hq;clear hq;go_enter Tryz.func210,Tryz.ntmps210
 go_wp2_with fail
 all_goals
  go_ret;refine ⟨?_,rfl⟩;rw [<- HQ.out]
  first
   | (simp_all;done)
   | (simp_all;omega)
structure Bfs (pairs:List (Int × Int)) (n:Nat) (a b:Int) (sl qs:List Int) (ex:Int->Prop):Prop where
 nd:sl.Nodup
 rng:∀x∈sl,0<=x/\x<(n:Int)
 rch:∀x∈sl,Rch pairs a x
 sub:∀x∈qs,x∈sl
 cls:∀x∈sl,x∉qs->¬ex x->∀y,(x,y)∈pairs->y∈sl
 tgt:b∈sl->b=a
 hd:a∈sl
theorem Bfs.start {pairs:List (Int × Int)} {n:Nat} {a b:Int} (h0:0<=a) (h1:a<n):Bfs pairs n a b [a] [a] (fun _=>False):=
 ⟨by simp,by simp;omega,fun x hx=>by rw [bS] at hx;subst hx;exact .refl x,fun x hx=>hx,fun x hx hq=>absurd hx hq,fun h=>by simpa using h,by simp⟩
theorem Bfs.pop {pairs:List (Int × Int)} {n:Nat} {a b x:Int} {sl qs:List Int} (h:Bfs pairs n a b sl (x :: qs) (fun _=>False)):Bfs pairs n a b sl qs (fun u=>u=x):=
 ⟨h.nd,h.rng,h.rch,fun y hy=>h.sub y (by simp [hy]),fun y hy hq hne=>h.cls y hy (by simp only [List.mem_cons,not_or];exact ⟨hne,hq⟩) (fun f=>f),h.tgt,h.hd⟩
theorem Bfs.push {pairs:List (Int × Int)} {n:Nat} {a b x y:Int} {sl qs:List Int} (h:Bfs pairs n a b sl qs (fun u=>u=x)) (hx:x∈sl) (hr:∀p∈pairs,0<=p.1/\p.1<(n:Int)/\0<=p.2/\p.2<(n:Int)) (hp:(x,y)∈pairs) (hy:y∉sl) (hb:y≠b):
 Bfs pairs n a b (y :: sl) (qs ++ [y]) (fun u=>u=x):=by
 refine ⟨List.nodup_cons.2 ⟨hy,h.nd⟩,?_,?_,?_,?_,?_,by simp [h.hd]⟩
 ·intro u hu;rcases List.mem_cons.1 hu with rfl | hu
  ·have:=hr _ hp;exact ⟨this.2.2.1,this.2.2.2⟩
  ·exact h.rng u hu
 ·intro u hu;rcases List.mem_cons.1 hu with rfl | hu
  ·exact .step (h.rch x hx) hp
  ·exact h.rch u hu
 ·intro u hu;rcases List.mem_append.1 hu with hu | hu
  ·exact List.mem_cons_of_mem _ (h.sub u hu)
  ·rw [bS] at hu;subst hu;simp
 ·intro u hu hq hne z hz;simp only [List.mem_append,bS,not_or] at hq;rcases List.mem_cons.1 hu with rfl | hu
  ·exact absurd rfl hq.2
  ·exact List.mem_cons_of_mem _ (h.cls u hu hq.1 hne z hz)
 ·intro hbs;rcases List.mem_cons.1 hbs with e | hbs
  ·exact absurd e.symm hb
  ·exact h.tgt hbs
theorem Bfs.close {pairs:List (Int × Int)} {n:Nat} {a b x:Int} {sl qs:List Int} (h:Bfs pairs n a b sl qs (fun u=>u=x)) (hx:∀y,(x,y)∈pairs->y∈sl):Bfs pairs n a b sl qs (fun _=>False):=
 ⟨h.nd,h.rng,h.rch,h.sub,fun u hu hq _ y hy=>by
   by_cases e:u=x
   ·subst e;exact hx y hy
   ·exact h.cls u hu hq e y hy,h.tgt,h.hd⟩
theorem Bfs.done {pairs:List (Int × Int)} {n:Nat} {a b:Int} {sl:List Int} (h:Bfs pairs n a b sl [] (fun _=>False)):b∈sl↔Rch pairs a b:=
 ⟨h.rch b,fun hr=>hr.closed (S:=fun u=>u∈sl) (fun x y hx hp=>h.cls x hx (by simp) (fun f=>f) y hp) h.hd⟩
theorem Bfs.len {pairs:List (Int × Int)} {n:Nat} {a b:Int} {sl qs:List Int} {ex:Int->Prop} (h:Bfs pairs n a b sl qs ex):sl.length<=n:=fA n sl h.nd h.rng
theorem uU {pairs:List (Int × Int)} {x y:Int}:y∈relL pairs false x↔(x,y)∈pairs:=by
 simp only [relL,Bool.false_eq_true,if_false,List.mem_map,List.mem_filter,decide_eq_true_eq];constructor
 ·rintro ⟨⟨p,q⟩,⟨h1,h2⟩,h3⟩;simp only at h2 h3;subst h2 h3;exact h1
 ·intro h;exact ⟨(x,y),⟨h,rfl⟩,rfl⟩
def inF (sl:List Int):Int->Bool:=fun x=>decide (x∈sl)
def i64F (g:Int->Bool):Lit->Bool
 | .int .i64 n=>g n
 | _=>false
theorem iF (sl:List Int) (y:Int):i64F (inF (y :: sl)) (.int .i64 y)=true:=by simp [i64F,inF]
theorem jT (sl:List Int) (y:Int):∀k,k≠Lit.int .i64 y->i64F (inF (y :: sl)) k=i64F (inF sl) k:=by
 intro k hk;cases k <;> try rfl
 rename_i q n;cases q <;> try rfl
 have:n≠y:=fun e=>hk (by rw [e])
 simp [i64F,inF,this]
theorem sK:i64F (inF [])=fun _=>false:=by
 funext k
 cases k <;> try rfl
 rename_i q n;cases q <;> rfl
theorem fG:∀w,(zeroValue 4).run Tryz.prog w = .ok (.bool false) w:=Tryz.zeroValue4
theorem gP (pairs:List (Int × Int)) (n:Nat) (a b:Int) (r:Nat) (w:World) (hR:Rel3 w r n (relL pairs)) (hr:∀p∈pairs,0<=p.1/\p.1<(n:Int)/\0<=p.2/\p.2<(n:Int)) (hn:n<=65536) (_hl:pairs.length<=65535):
 Calls Tryz.prog 189 #[.pointer (some ⟨r,0,none⟩),.int .i64 a,.int .i64 b] w fun e' w'=>e' = .returned (.bool (outB pairs n a b))/\Below w.heap.size w w':=by
 obtain ⟨M,hM,hLK⟩:=hR;obtain ⟨x0,x1,x2⟩:=gW hM;have HX0:=aF x0;by_cases hab:0<=a/\a<(n:Int)/\0<=b/\b<(n:Int)
 case neg=>
  have HF:Hid (outB pairs n a b=false):=aF (by unfold outB;rw [bA (by omega)]);rw [HF.out];clear hLK hM;by_cases ha:0<=a/\a<(n:Int)
  ·have e1:(decide (0<=a) && decide (a<(n:Int)))=true:=by simp [ha]
   have e2:(decide (0<=b) && decide (b<(n:Int)))=false:=by simp;omega
   have E1:=aF e1;have E2:=aF e2;clear e1 e2 ha hab;go_enter Tryz.func189,Tryz.ntmps189
   go_wp2_with fail
   go_step3
   go_wp2_with (go_at_call 210;refine (nC r n _ w HX0.out).mono ?_;rintro e' w1 ⟨rfl,hw⟩;obtain rfl:=hw.symm;first | rw [E1.out] | rw [E2.out])
   rw [Exit.noGoto_ret];go_ret;exact ⟨rfl,aX _ _⟩
  ·have e1:(decide (0<=a) && decide (a<(n:Int)))=false:=by simp;omega
   have E1:=aF e1;clear e1 ha hab;go_enter Tryz.func189,Tryz.ntmps189
   go_wp2_with fail
   go_step3
   go_wp2_with (go_at_call 210;refine (nC r n _ w HX0.out).mono ?_;rintro e' w1 ⟨rfl,hw⟩;obtain rfl:=hw.symm;rw [E1.out])
   rw [Exit.noGoto_ret];go_ret;exact ⟨rfl,aX _ _⟩
 case pos=>
  obtain ⟨ha0,ha1,hb0,hb1⟩:=hab;have HQ:=aF (vC hr ha0 ha1 hb0 hb1);generalize outB pairs n a b=q at HQ ⊢;have e1:(decide (0<=a) && decide (a<(n:Int)))=true:=by simp [ha0,ha1]
  have e2:(decide (0<=b) && decide (b<(n:Int)))=true:=by simp [hb0,hb1]
  have E1:=aF e1;have E2:=aF e2;have HLK:=aF hLK;have HM:=aF hM;have keya:=key3 (a:=a) ha0 (by omega);obtain ⟨i0,hi,hz0,hz1,hz2⟩:=info_parts eF;have hmm:= @run_makeMap Tryz.prog;clear e1 e2 hLK hM;have hmade:=OwnB.made w Tryz.prog 3 4;rw [<- sK] at hmade;obtain ⟨w0,hrun0,hown0,hg0⟩:=hmade.store law3 Tryz.underlying251 Tryz.underlying4 (by unfold maxLen;omega) keya trivial true (iF [] a) (jT [] a);have hB0:Below w.heap.size w w0:=((aX _ _).alloc (aY _) _).trans (dP hg0 (aY _) (by simp));have hs0:w.heap.size+1<=w0.heap.size:=by have:=hg0.size;simpa using this
  have HOWN0:=aF hown0;have HB0:=aF hB0;clear hmade hown0 hg0 hB0;go_enter Tryz.func189,Tryz.ntmps189
  go_wp2_with fail
  go_step3
  go_wp2_with (first
   | (go_at_call 210;refine (nC r n _ w HX0.out).mono ?_;rintro e' w1 ⟨rfl,hw⟩;obtain rfl:=hw.symm;first | rw [E1.out] | rw [E2.out])
   | fail)
  go_step3
  go_wp2_with fail
  have keyb:=key3 (a:=b) hb0 (by omega);have HBF0:=aF (Bfs.start (pairs:=pairs) (b:=b) ha0 ha1);have HQ0:=aF (Qu.one w0 (w.heap.size+1) 3 (.int .i64 a) w0.heap.size rfl hs0);go_loopg [8] (2 * (n - 1)+1) (fun gk v wr=>∃(sl qs:List Int),gk=2 * (n - sl.length)+qs.length/\gk<=2 * n+1/\Hid (Bfs pairs n a b sl qs (fun _=>False))/\Hid (Qu wr (w.heap.size+1) 3 v (qs.map (Value.int .i64)))/\Hid (OwnB Tryz.prog 3 4 wr w.heap.size sl.length (i64F (inF sl)))/\Hid (Below w.heap.size w wr)/\w.heap.size+1<=wr.heap.size)
  case atStart=>exact ⟨[a],[a],by simp,by omega,HBF0,HQ0,aF (HOWN0.out.alloc _),aF (HB0.out.alloc HB0.out.size _),by simp;omega⟩
  case round=>
   clear HBF0 HQ0 HOWN0 HB0 hrun0;obtain ⟨sl,qs,hgk,hgk2,HBF,HQU,HOWN,HBL,hsz⟩:=hrel;cases qs with
   | nil=>
     obtain ⟨A,c,rfl,hc1,hc2⟩:=HQU.out.slice
     have HFIN:Hid (decide (b∈sl)=q):=aF (by
      rw [bR,decide_eq_true_eq,HBF.out.done]
      exact HQ.out.symm)
     have hlk:=HOWN.out.look law3 Tryz.underlying251 Tryz.underlying4 (fG _) keyb;simp only [i64F,inF] at hlk;rw [HFIN.out] at hlk;simp only [List.map_nil,bP] at hc1 hc2 ⊢;clear HQU HOWN HBF;go_wp2_with fail
     rw [Exit.noGoto_ret];go_ret;exact ⟨rfl,HBL.out⟩
   | cons x qs=>
     obtain ⟨A,c,rfl,hc1,hc2⟩:=HQU.out.slice;obtain ⟨g,p,rfl,hlen,hle,hbig,y0,hq2⟩:=HQU.out.tail;have hbf:=HBF.out.pop;have hx:=HBF.out.sub x (by simp);have hxr:=HBF.out.rng x hx;have hlen0:=HBF.out.len;have keyx:=key3 (a:=x) hxr.1 (by omega);obtain ⟨A2,c2,hlk,hsl⟩:=HLK.out false x hxr.1 (by omega);have hlkr:=hlk wr HBL.out;have hys:=aF (jM pairs false x);have HMEM:=aF (fun y=> @uU pairs x y);have hle2:=hsl.le;have hbig2:=hsl.big;have HSL:=aF hsl;have HBF2:=aF hbf;have HXM:=aF hx;have hcut:=rC (P:=Tryz.prog) 58 3 (some ⟨g,p,none⟩) (qs.length+1) c 1 1 Tryz.underlying58 Tryz.sizeOf3 (by omega);simp only [List.map_cons,bK,cF] at hq2 hle hgk hc1 ⊢;have HQ2:Hid (Qu wr (w.heap.size+1) 3 (.slice (cutA (some ⟨g,p,none⟩) c 1 1) (qs.length+1 - 1) (c - 1)) (qs.map (Value.int .i64))):=aF hq2;obtain ⟨v2,hv2⟩:∃v2,Value.slice (cutA (some ⟨g,p,none⟩) c 1 1) (qs.length+1 - 1) (c - 1)=v2:=⟨_,rfl⟩;rw [hv2] at HQ2 hcut
     have hidx0:∀(W:World) (A0:Option Addr),A0=some ⟨g,p,none⟩->(Instr.indexAt 58 (.slice A0 (qs.length+1) c) (.int .i64 0)).run Tryz.prog W = .ok (.pointer (some ⟨g,p,none⟩)) W:=fun W A0 h=>by
      subst h;go_simp
     obtain ⟨AA,hAA⟩:∃AA,some (⟨g,p,none⟩:Addr)=AA:=⟨_,rfl⟩;have hidx:=fun W=>hidx0 W AA hAA.symm
     rw [hAA] at hcut ⊢;have hcut1:∀W,(Instr.slice 58 (.slice AA (qs.length+1) c) (some (.int .i64 1)) none none).run Tryz.prog W = .ok v2 W:=fun W=>hcut W
     clear hAA hidx0 hcut;have z1:wr.cell? ⟨r,1,none⟩=some (.map (some (M false))):=(HBL.out.cell (p:=⟨r,1,none⟩) (cD _ _ x1)).trans x1;clear hbf hx hxr hlk hsl hq2 HBF hv2;generalize relL pairs false x=ys at *;go_wp2_with fail
     go_loopg [8,42] ys.length (fun gj v i wr2=>∃(sl2 qs2:List Int) (k:Nat),gj=ys.length - k/\k<=ys.length/\i = .int .i64 k/\2 * (n - sl2.length)+qs2.length<=2 * (n - sl.length)+qs.length/\Hid (Bfs pairs n a b sl2 qs2 (fun u=>u=x))/\Hid (x∈sl2)/\Hid (Qu wr2 (w.heap.size+1) 3 v (qs2.map (Value.int .i64)))/\Hid (OwnB Tryz.prog 3 4 wr2 w.heap.size sl2.length (i64F (inF sl2)))/\Hid (Below w.heap.size w wr2)/\w.heap.size+1<=wr2.heap.size/\Hid (∀j y,j<k->ys[j]?=some y->y∈sl2))
     case atStart=>exact ⟨sl,qs,0,by omega,by omega,rfl,aY _,HBF2,HXM,HQ2,HOWN,HBL,hsz,aF (fun j y hj=>absurd hj (by omega))⟩
     case round=>
      clear HBF2 HXM HQ2 HOWN HBL hcut1 hlkr z1 y0 hidx;obtain ⟨sl2,qs2,k,hgj,hk,rfl,hms,HBF,HXM,HQU,HOWN,HBL,hsz2,HDN⟩:=hrel;by_cases hlt:k<ys.length
      ·have hb2:=HBL.out;obtain ⟨g2,o2,rfl,hb2',hy⟩:=(HSL.out.keep RInt.keeps hb2).sl.at_ hlt;have HXY:=aF ((HMEM.out ys[k]).1 (bN hlt))
       have HDN2:Hid (∀sl3:List Int,(∀u∈sl2,u∈sl3)->ys[k]∈sl3->∀j y,j<k+1->ys[j]?=some y->y∈sl3):=aF (fun sl3 h1 h2 j y hj hyj=>by
        rcases Nat.lt_or_ge j k with hjk | hjk
        ·exact h1 y (HDN.out j y hjk hyj)
        ·have:j=k:=by omega
         rw [this,bD hlt] at hyj;injection hyj with hyj
         rw [<- hyj]
         exact h2)
       obtain ⟨y,hyy⟩:∃y,ys[k]=y:=⟨_,rfl⟩;rw [hyy] at hy HXY HDN2;have y0:wr.cell? ⟨g2,o2+k,none⟩=some (.int .i64 y):=(by simpa [RInt] using hy);have hyr:=hr _ HXY.out;simp only at hyr;have keyy:=key3 (a:=y) hyr.2.2.1 (by omega);have hown:=HOWN.out;have hlen2:=HBF.out.len;clear hy hyy hyr HDN;by_cases hyb:y=b
       ·have HF:Hid (q=true):=aF (HQ.out.2 (hyb ▸ Rch.step (HBF.out.rch x HXM.out) HXY.out));subst hyb;clear HQU HBF HOWN
        go_wp2_with (first
         | (at_mapUpdate;refine dT _ rfl _ _ _ 251 rfl 3 4 law3 Tryz.underlying251 Tryz.underlying4 _ _ _ rfl hown (by unfold maxLen;omega) _ _ _ rfl rfl keyy trivial _ (iF sl2 y) (jT sl2 y) ?_;intro w3 hown3 hg3)
         | (at_lookup;refine dA _ rfl _ _ 251 rfl 3 4 law3 Tryz.underlying251 Tryz.underlying4 (fG _) _ _ _ rfl hown3 _ _ rfl keyy ?_;rw [iF]))
        rw [Exit.noGoto_ret];go_ret;exact ⟨by rw [HF.out];rfl,HBL.out.trans (dP hg3 (aY _) (by omega) |>.mono (aY _))⟩
       ·have e3:(y == b)=false:=by simp [hyb]
        have HYB:=aF hyb;clear hyb;by_cases hm:y∈sl2
        ·have HM2:=aF hm;have HFB:Hid (i64F (inF sl2) (.int .i64 y)=true):=aF (by simp [i64F,inF,hm]);clear hm;go_wp2_with (at_lookup;refine dA _ rfl _ _ 251 rfl 3 4 law3 Tryz.underlying251 Tryz.underlying4 (fG _) _ _ _ rfl hown _ _ rfl keyy ?_;rw [HFB.out])
         go_roundg (ys.length - (k+1))
         case measure=>omega
         case rel=>exact ⟨sl2,qs2,k+1,rfl,by omega,by go_num,hms,HBF,HXM,HQU,HOWN,HBL,hsz2,aF (HDN2.out sl2 (fun u h=>h) HM2.out)⟩
        ·have HM2:=aF hm;have HFB:Hid (i64F (inF sl2) (.int .i64 y)=false):=aF (by simp [i64F,inF,hm]);have HBF3:=aF (HBF.out.push HXM.out hr HXY.out hm HYB.out);have hlen3:=HBF3.out.len;simp only [bK] at hlen3;clear hm
         go_wp2_with (first
          | (at_lookup;refine dA _ rfl _ _ 251 rfl 3 4 law3 Tryz.underlying251 Tryz.underlying4 (fG _) _ _ _ rfl hown _ _ rfl keyy ?_;rw [HFB.out])
          | (at_mapUpdate;refine dT _ rfl _ _ _ 251 rfl 3 4 law3 Tryz.underlying251 Tryz.underlying4 _ _ _ rfl hown (by unfold maxLen;omega) _ _ _ rfl rfl keyy trivial _ (iF sl2 y) (jT sl2 y) ?_;intro w3 hown3 hg3)
          | (at_builtin;refine iM _ rfl _ _ 58 rfl (w.heap.size+1) 3 i0 (.int .i64 0) Tryz.underlying58 hi hz0 hz1 (by omega) rfl _ _ rfl ((HQU.out.block (fun k hk=>hg3.block k (HQU.out.lt k hk).2 (by have:=(HQU.out.lt k hk).1;simp;omega))).below ((aX _ _).alloc (aY _) _)) ⟨_,0,none⟩ 1 (.int .i64 y) rfl (dZ w3 _ _ _ rfl 0 _ rfl) rfl (by rw [cF];omega) (by have:=hg3.size;simp;omega) ?_;intro v4 w4 hq4 hg4))
         have hs3:=hg3.size;have hs4:=hg4.size;simp only [bI] at hs4;have hrow:∀j,u8.ownBlock=some j->w.heap.size+1<=j:=fun j hj=>(HQU.out.lt j hj).1
         have hB3:Below w.heap.size w (w3.alloc (.cells #[.int .i64 y] 3)):=(HBL.out.trans (dP hg3 (aY _) (by omega))).alloc (by omega) _;have HB4:=aF (hB3.grown hg4 (by simp;omega) (fun j hj=>by have:=hrow j hj;omega));have HO4:=aF ((hown3.alloc _).block (hg4.block _ (by simp;omega) (fun e=>by have:=hrow _ e.symm;omega)));go_roundg (ys.length - (k+1))
         case measure=>omega
         case rel=>exact ⟨y :: sl2,qs2 ++ [y],k+1,rfl,by omega,by go_num,by simp only [bK,bB,bP];omega,HBF3,aF (List.mem_cons_of_mem _ HXM.out),aF (by rw [bU];exact hq4),HO4,HB4,by omega,aF (HDN2.out (y :: sl2) (fun u h=>List.mem_cons_of_mem _ h) (by simp))⟩
      ·have HCL:=aF (HBF.out.close (fun y hy=>by
        obtain ⟨j,hj,he⟩:=List.mem_iff_getElem.1 ((HMEM.out y).2 hy)
        exact HDN.out j y (by omega) (by rw [bD hj,he])))
       clear HBF HDN;go_wp2_with fail
       go_roundg (2 * (n - sl2.length)+qs2.length)
       case measure=>omega
       case rel=>exact ⟨sl2,qs2,rfl,by omega,HCL,HQU,HOWN,HBL,hsz2⟩
end
end Go.Proofs.YtmknfbfppmkcfaaGreatDoor
