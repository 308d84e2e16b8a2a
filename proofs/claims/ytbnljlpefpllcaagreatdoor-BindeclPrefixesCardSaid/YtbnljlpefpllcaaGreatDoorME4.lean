/-
  Parts of the proof: P5 P6 P7 P8 P9 F0 W12 W14 V1 Map E5.
-/
import Derived.Test.YtbnljlpefpllcaaGreatDoorME0
import Derived.Test.YtbnljlpefpllcaaGreatDoorME3
import Derived.Test.YtbnljlpefpllcaaGreatDoorME1
import Derived.Test.YtbnljlpefpllcaaGreatDoorME2
import Derived.Test.YtbnljlpefpllcaaGreatDoorSg
import Derived.Deep.AppendSrc
import Derived.Maps.OwnSet
import Derived.Maps.OwnOps
import Derived.StringKeys
import Derived.Laws.Bits64b
import Derived.Laws.MathBits
namespace Go.Proofs.YtbnljlpefpllcaaGreatDoor
set_option maxRecDepth 100000
set_option maxHeartbeats 16000000
section
open Go Go.RowKit
theorem kN {w:World} {k:Nat} {a b c:Value} {t:TypeId} (x:Value) (h:w.heap[k]?=some (.cells #[a,b,c] t)):(w.setCell ⟨k,1,none⟩ x).heap[k]?=some (.cells #[a,x,c] t):=by
 simp [World.setCell,Array.getElem?_modify,h]
theorem gP {w:World} {k:Nat} {a b c:Value} {t:TypeId} (x:Value) (h:w.heap[k]?=some (.cells #[a,b,c] t)):(w.setCell ⟨k,2,none⟩ x).heap[k]?=some (.cells #[a,b,x] t):=by
 simp [World.setCell,Array.getElem?_modify,h]
theorem xFP (F:Rs→Nat × Rs) (hF:∀s,s.err≠0→F s=(0,s)) (lb:Array Value) (g:Nat) (s:Rs) (w:World) (hr:PRd w g s)
 (hf:∀(all:List UInt8) (A:Option Addr) (c k:Nat),w.heap[g]?=some (.cells #[.slice A all.length c,.int .i64 k,.int .i64 0] 153)→Slc 1 RB w A c all→k≤all.length→all.length≤1000000→
   Calls Tryz.prog 144 lb w fun e' w'=>∃(v q:Nat) (er:Int),e' = .returned (.tuple #[.int .u64 v,.int .i64 q,.int .i64 er])∧Ans all F k v q er∧Below w.heap.size w w'):
 Calls Tryz.prog 143 #[.pointer (some ⟨g,0,none⟩),.func (.func 144) #[] lb] w fun e' w'=>e' = .returned (.int .u64 (F s).1)∧PRd w' g (F s).2∧But g w w':=by
 obtain ⟨l,er0⟩:=s
 have HR:=aF hr
 have x2:=hr.err
 obtain ⟨all,A,c,k,hg,hs,hne,hk,hl,hrest⟩:=hr
 simp only at hg hrest x2
 have hlt:g<w.heap.size:=(Array.getElem?_eq_some_iff.1 hg).1
 by_cases h0:er0=0
 ·subst h0
  have HF:=aF (hf all A c k hg hs hk hl)
  have hl0:=hrest rfl
  subst hl0
  have HG:=aF hg
  have HS:=aF hs
  have HN:=aF hne
  have HL:=aF hlt
  clear hf hF hg hs hrest hne hlt
  go_enter Tryz.func143,Tryz.ntmps143
  go_wp2_with (go_at_call 144;refine HF.out.mono ?_;rintro e' w1 ⟨v,q,er,rfl,ha,hb1⟩;have HA:=aF ha;have HB1:=aF hb1;have y2:=cell_keep hb1 x2;have hg1:=(hb1.block g HL.out).trans HG.out;have y1:w1.cell? ⟨g,1,none⟩=some (.int .i64 k):=(by simp [World.cell?,hg1]);have f1:w1.frozen? ⟨g,1,none⟩=false:=(by simp [World.frozen?,hg1]);have f2:w1.frozen? ⟨g,2,none⟩=false:=(by simp [World.frozen?,hg1]);have HG1:=aF hg1;clear ha hb1 hg1)
  all_goals
   obtain ⟨a1,a2⟩:=HA.out
   by_cases he:er=0
   ·first
    | (exfalso
       clear HA HF HR HB1 a1 a2 HG1 y1 y2 f1 f2 HG HS HN HL
       subst he
       contradiction)
    | (subst he
       rw [aY rfl] at a1
       go_ret
       rw [a1]
       exact ⟨rfl,⟨all,A,c,q,kN _ HG1.out,iH _ (HS.out.keep RB.keeps HB1.out) (fun a h _=>HN.out a h),HN.out,a2 rfl,hl,fun _=>rfl⟩,iO (But.of_below HB1.out) _ _⟩)
   ·rw [aX he] at a1
    first
    | (exfalso
       clear HA HF HR HB1 a1 a2 HG1 y1 y2 f1 f2 HG HS HN HL
       have hx:(er != 0)=true:=bne_iff_ne.2 he
       simp_all
       done)
    | (go_ret
       rw [a1]
       exact ⟨rfl,⟨all,A,c,k,gP _ HG1.out,iH _ (HS.out.keep RB.keeps HB1.out) (fun a h _=>HN.out a h),HN.out,hk,hl,fun h=>absurd h he⟩,iO (But.of_below HB1.out) _ _⟩)
 ·have e2:(er0 == 0)=false:=by simp [h0]
  have e3:(er0 != 0)=true:=by simp [h0]
  have HFF:Hid (F ⟨l,er0⟩=(0,⟨l,er0⟩)):=aF (hF _ h0)
  clear hf hF hg hs hrest hne
  go_enter Tryz.func143,Tryz.ntmps143
  go_wp2_with fail
  go_ret
  rw [HFF.out]
  exact ⟨rfl,HR.out,But.refl _ _⟩
theorem xFS (F:Rs→Nat × Rs) (hF:∀s,s.err≠0→F s=(0,s)) (lb:Array Value) (g:Nat) (s:Rs) (w:World) (hr:PRd w g s)
 (hf:∀(all:List UInt8) (A:Option Addr) (c k:Nat),w.heap[g]?=some (.cells #[.slice A all.length c,.int .i64 k,.int .i64 0] 153)→Slc 1 RB w A c all→k≤all.length→all.length≤1000000→
   Calls Tryz.prog 139 lb w fun e' w'=>∃(v q:Nat) (er:Int),e' = .returned (.tuple #[.int .i64 v,.int .i64 q,.int .i64 er])∧Ans all F k v q er∧Below w.heap.size w w'):
 Calls Tryz.prog 138 #[.pointer (some ⟨g,0,none⟩),.func (.func 139) #[] lb] w fun e' w'=>e' = .returned (.int .i64 (F s).1)∧PRd w' g (F s).2∧But g w w':=by
 obtain ⟨l,er0⟩:=s
 have HR:=aF hr
 have x2:=hr.err
 obtain ⟨all,A,c,k,hg,hs,hne,hk,hl,hrest⟩:=hr
 simp only at hg hrest x2
 have hlt:g<w.heap.size:=(Array.getElem?_eq_some_iff.1 hg).1
 by_cases h0:er0=0
 ·subst h0
  have HF:=aF (hf all A c k hg hs hk hl)
  have hl0:=hrest rfl
  subst hl0
  have HG:=aF hg
  have HS:=aF hs
  have HN:=aF hne
  have HL:=aF hlt
  clear hf hF hg hs hrest hne hlt
  go_enter Tryz.func138,Tryz.ntmps138
  go_wp2_with (go_at_call 139;refine HF.out.mono ?_;rintro e' w1 ⟨v,q,er,rfl,ha,hb1⟩;have HA:=aF ha;have HB1:=aF hb1;have y2:=cell_keep hb1 x2;have hg1:=(hb1.block g HL.out).trans HG.out;have y1:w1.cell? ⟨g,1,none⟩=some (.int .i64 k):=(by simp [World.cell?,hg1]);have f1:w1.frozen? ⟨g,1,none⟩=false:=(by simp [World.frozen?,hg1]);have f2:w1.frozen? ⟨g,2,none⟩=false:=(by simp [World.frozen?,hg1]);have HG1:=aF hg1;clear ha hb1 hg1)
  all_goals
   obtain ⟨a1,a2⟩:=HA.out
   by_cases he:er=0
   ·first
    | (exfalso
       clear HA HF HR HB1 a1 a2 HG1 y1 y2 f1 f2 HG HS HN HL
       subst he
       contradiction)
    | (subst he
       rw [aY rfl] at a1
       go_ret
       rw [a1]
       exact ⟨rfl,⟨all,A,c,q,kN _ HG1.out,iH _ (HS.out.keep RB.keeps HB1.out) (fun a h _=>HN.out a h),HN.out,a2 rfl,hl,fun _=>rfl⟩,iO (But.of_below HB1.out) _ _⟩)
   ·rw [aX he] at a1
    first
    | (exfalso
       clear HA HF HR HB1 a1 a2 HG1 y1 y2 f1 f2 HG HS HN HL
       have hx:(er != 0)=true:=bne_iff_ne.2 he
       simp_all
       done)
    | (go_ret
       rw [a1]
       exact ⟨rfl,⟨all,A,c,k,gP _ HG1.out,iH _ (HS.out.keep RB.keeps HB1.out) (fun a h _=>HN.out a h),HN.out,hk,hl,fun h=>absurd h he⟩,iO (But.of_below HB1.out) _ _⟩)
 ·have e2:(er0 == 0)=false:=by simp [h0]
  have e3:(er0 != 0)=true:=by simp [h0]
  have HFF:Hid (F ⟨l,er0⟩=(0,⟨l,er0⟩)):=aF (hF _ h0)
  clear hf hF hg hs hrest hne
  go_enter Tryz.func138,Tryz.ntmps138
  go_wp2_with fail
  go_ret
  rw [HFF.out]
  exact ⟨rfl,HR.out,But.refl _ _⟩
theorem xFT (F:Rs→Nat × Rs) (hF:∀s,s.err≠0→F s=(0,s)) (lb:Array Value) (g:Nat) (s:Rs) (w:World) (hr:PRd w g s)
 (hf:∀(all:List UInt8) (A:Option Addr) (c k:Nat),w.heap[g]?=some (.cells #[.slice A all.length c,.int .i64 k,.int .i64 0] 153)→Slc 1 RB w A c all→k≤all.length→all.length≤1000000→
   Calls Tryz.prog 142 lb w fun e' w'=>∃(v q:Nat) (er:Int),e' = .returned (.tuple #[.int .u8 v,.int .i64 q,.int .i64 er])∧Ans all F k v q er∧Below w.heap.size w w'):
 Calls Tryz.prog 141 #[.pointer (some ⟨g,0,none⟩),.func (.func 142) #[] lb] w fun e' w'=>e' = .returned (.int .u8 (F s).1)∧PRd w' g (F s).2∧But g w w':=by
 obtain ⟨l,er0⟩:=s
 have HR:=aF hr
 have x2:=hr.err
 obtain ⟨all,A,c,k,hg,hs,hne,hk,hl,hrest⟩:=hr
 simp only at hg hrest x2
 have hlt:g<w.heap.size:=(Array.getElem?_eq_some_iff.1 hg).1
 by_cases h0:er0=0
 ·subst h0
  have HF:=aF (hf all A c k hg hs hk hl)
  have hl0:=hrest rfl
  subst hl0
  have HG:=aF hg
  have HS:=aF hs
  have HN:=aF hne
  have HL:=aF hlt
  clear hf hF hg hs hrest hne hlt
  go_enter Tryz.func141,Tryz.ntmps141
  go_wp2_with (go_at_call 142;refine HF.out.mono ?_;rintro e' w1 ⟨v,q,er,rfl,ha,hb1⟩;have HA:=aF ha;have HB1:=aF hb1;have y2:=cell_keep hb1 x2;have hg1:=(hb1.block g HL.out).trans HG.out;have y1:w1.cell? ⟨g,1,none⟩=some (.int .i64 k):=(by simp [World.cell?,hg1]);have f1:w1.frozen? ⟨g,1,none⟩=false:=(by simp [World.frozen?,hg1]);have f2:w1.frozen? ⟨g,2,none⟩=false:=(by simp [World.frozen?,hg1]);have HG1:=aF hg1;clear ha hb1 hg1)
  all_goals
   obtain ⟨a1,a2⟩:=HA.out
   by_cases he:er=0
   ·first
    | (exfalso
       clear HA HF HR HB1 a1 a2 HG1 y1 y2 f1 f2 HG HS HN HL
       subst he
       contradiction)
    | (subst he
       rw [aY rfl] at a1
       go_ret
       rw [a1]
       exact ⟨rfl,⟨all,A,c,q,kN _ HG1.out,iH _ (HS.out.keep RB.keeps HB1.out) (fun a h _=>HN.out a h),HN.out,a2 rfl,hl,fun _=>rfl⟩,iO (But.of_below HB1.out) _ _⟩)
   ·rw [aX he] at a1
    first
    | (exfalso
       clear HA HF HR HB1 a1 a2 HG1 y1 y2 f1 f2 HG HS HN HL
       have hx:(er != 0)=true:=bne_iff_ne.2 he
       simp_all
       done)
    | (go_ret
       rw [a1]
       exact ⟨rfl,⟨all,A,c,k,gP _ HG1.out,iH _ (HS.out.keep RB.keeps HB1.out) (fun a h _=>HN.out a h),HN.out,hk,hl,fun h=>absurd h he⟩,iO (But.of_below HB1.out) _ _⟩)
 ·have e2:(er0 == 0)=false:=by simp [h0]
  have e3:(er0 != 0)=true:=by simp [h0]
  have HFF:Hid (F ⟨l,er0⟩=(0,⟨l,er0⟩)):=aF (hF _ h0)
  clear hf hF hg hs hrest hne
  go_enter Tryz.func141,Tryz.ntmps141
  go_wp2_with fail
  go_ret
  rw [HFF.out]
  exact ⟨rfl,HR.out,But.refl _ _⟩
theorem fG (W:World) (v:Value) (t:TypeId):(W.alloc (.cells #[v] t)).cell? ⟨W.heap.size,0,none⟩=some v:=by
 rw [World.cell?_alloc_at _ _ _ _ (by simp)];rfl
theorem yH (g:Nat) (s:Rs) (most:Nat) (w:World) (hr:PRd w g s):
 Calls Tryz.prog 92 #[.pointer (some ⟨g,0,none⟩),.int .u64 most] w fun e' w'=>e' = .returned (.int .u64 (uintS most s).1)∧PRd w' g (uintS most s).2∧But g w w':=by
 have hb:Below w.heap.size w ((w.alloc (.cells #[.pointer (some ⟨g,0,none⟩)] 93)).alloc (.cells #[.int .u64 most] 148)):=((aV _ _).alloc (aW _) _).alloc (by simp) _
 have c2:((w.alloc (.cells #[.pointer (some ⟨g,0,none⟩)] 93)).alloc (.cells #[.int .u64 most] 148)).cell? ⟨w.heap.size+1,0,none⟩=some (.int .u64 most):=by
  have:=fG (w.alloc (.cells #[.pointer (some ⟨g,0,none⟩)] 93)) (.int .u64 most) 148
  rwa [bH] at this
 have c1:=cell_keep (((aV _ _).alloc (aW _) (.cells #[.int .u64 most] 148))) (fG w (.pointer (some ⟨g,0,none⟩)) 93)
 have HB:=aF hb
 have HC:=aF (xFP (uintS most) (fun s h=>by unfold uintS;rw [aX h]) #[.pointer (some ⟨w.heap.size,0,none⟩),.pointer (some ⟨w.heap.size+1,0,none⟩)] g s _ (hr.keep hb) (fun all A c k h1 h2 h3 h4=>yG most (w.heap.size+1) all A c k g w.heap.size _ h1 h2 h3 h4 c1 c2))
 clear hr hb c1 c2
 go_enter Tryz.func92,Tryz.ntmps92
 go_wp2_with (go_at_call 143;refine HC.out.mono ?_;rintro e' w1 ⟨rfl,hr1,hb1⟩;have HR1:=aF hr1;have HB1:=aF hb1;clear hr1 hb1)
 go_ret
 exact ⟨rfl,HR1.out,(But.of_below HB.out).trans HB1.out⟩
theorem fZ (g:Nat) (s:Rs) (w:World) (hr:PRd w g s):
 Calls Tryz.prog 88 #[.pointer (some ⟨g,0,none⟩),.int .i64 65535] w fun e' w'=>e' = .returned (.int .i64 (countS 65535 s).1)∧PRd w' g (countS 65535 s).2∧But g w w':=by
 have hb:Below w.heap.size w ((w.alloc (.cells #[.pointer (some ⟨g,0,none⟩)] 93)).alloc (.cells #[.int .i64 65535] 3)):=((aV _ _).alloc (aW _) _).alloc (by simp) _
 have c2:((w.alloc (.cells #[.pointer (some ⟨g,0,none⟩)] 93)).alloc (.cells #[.int .i64 65535] 3)).cell? ⟨w.heap.size+1,0,none⟩=some (.int .i64 65535):=by
  have:=fG (w.alloc (.cells #[.pointer (some ⟨g,0,none⟩)] 93)) (.int .i64 65535) 3
  rwa [bH] at this
 have c1:=cell_keep (((aV _ _).alloc (aW _) (.cells #[.int .i64 65535] 3))) (fG w (.pointer (some ⟨g,0,none⟩)) 93)
 have HB:=aF hb
 have HC:=aF (xFS (countS 65535) (fun s h=>by unfold countS;rw [aX h]) #[.pointer (some ⟨w.heap.size,0,none⟩),.pointer (some ⟨w.heap.size+1,0,none⟩)] g s _ (hr.keep hb) (fun all A c k h1 h2 h3 h4=>wA (w.heap.size+1) all A c k g w.heap.size _ h1 h2 h3 h4 c1 c2))
 clear hr hb c1 c2
 go_enter Tryz.func88,Tryz.ntmps88
 go_wp2_with (go_at_call 138;refine HC.out.mono ?_;rintro e' w1 ⟨rfl,hr1,hb1⟩;have HR1:=aF hr1;have HB1:=aF hb1;clear hr1 hb1)
 go_ret
 exact ⟨rfl,HR1.out,(But.of_below HB.out).trans HB1.out⟩
theorem gQ (g:Nat) (s:Rs) (w:World) (hr:PRd w g s):
 Calls Tryz.prog 90 #[.pointer (some ⟨g,0,none⟩)] w fun e' w'=>e' = .returned (.int .u8 (byteS s).1)∧PRd w' g (byteS s).2∧But g w w':=by
 have hb:Below w.heap.size w (w.alloc (.cells #[.pointer (some ⟨g,0,none⟩)] 93)):=(aV _ _).alloc (aW _) _
 have c1:=fG w (.pointer (some ⟨g,0,none⟩)) 93
 have HB:=aF hb
 have HC:=aF (xFT byteS (fun s h=>by unfold byteS;rw [aX h]) #[.pointer (some ⟨w.heap.size,0,none⟩)] g s _ (hr.keep hb) (fun all A c k h1 h2 h3 h4=>yM all A c k g w.heap.size _ h1 h2 h3 h4 c1))
 clear hr hb c1
 go_enter Tryz.func90,Tryz.ntmps90
 go_wp2_with (go_at_call 141;refine HC.out.mono ?_;rintro e' w1 ⟨rfl,hr1,hb1⟩;have HR1:=aF hr1;have HB1:=aF hb1;clear hr1 hb1)
 go_ret
 exact ⟨rfl,HR1.out,(But.of_below HB.out).trans HB1.out⟩
theorem qJ (g:Nat) (s:Rs) (e:Int) (he:e≠0) (w:World) (hr:PRd w g s):
 Calls Tryz.prog 87 #[.pointer (some ⟨g,0,none⟩),.int .i64 e] w fun e' w'=>e' = .returned (.tuple #[])∧PRd w' g (failS e s)∧But g w w':=by
 obtain ⟨l,er⟩:=s
 have HR:=aF hr
 have x2:=hr.err
 obtain ⟨all,A,c,k,hg,hs,hne,hk,hl,hrest⟩:=hr
 simp only at x2 hg
 have f2:w.frozen? ⟨g,2,none⟩=false:=by simp [World.frozen?,hg]
 have HG:=aF hg
 have HS:=aF hs
 have HN:=aF hne
 clear hg hs hne hrest
 by_cases hc:er=0
 ·subst hc
  have HF:Hid (failS e ⟨l,0⟩=⟨[],e⟩):=aF (by unfold failS;rw [aY rfl])
  go_enter Tryz.func87,Tryz.ntmps87
  go_wp2_with fail
  refine bodyPost_end (v:= .tuple #[]) (by simp [results,Tryz.results87,go_sem] <;> rfl) rfl ⟨rfl,?_,iO (But.refl _ _) _ _⟩
  rw [HF.out]
  exact ⟨all,A,c,k,gP _ HG.out,iH _ HS.out (fun a h _=>HN.out a h),HN.out,hk,hl,fun h=>absurd h he⟩
 ·have HF:Hid (failS e ⟨l,er⟩=⟨l,er⟩):=aF (by unfold failS;rw [aX hc])
  have e4:(er == 0)=false:=by simp [hc]
  clear hc
  go_enter Tryz.func87,Tryz.ntmps87
  go_wp2_with fail
  exact bodyPost_end (v:= .tuple #[]) (by simp [results,Tryz.results87,go_sem] <;> rfl) rfl ⟨rfl,by rw [HF.out];exact HR.out,But.refl _ _⟩
theorem gZ (g:Nat) (s:Rs) (w:World) (hr:PRd w g s):
 Calls Tryz.prog 89 #[.pointer (some ⟨g,0,none⟩)] w fun e' w'=>e' = .returned (.int .i64 s.err)∧w'=w:=by
 have x2:=hr.err
 clear hr
 go_enter Tryz.func89,Tryz.ntmps89
 go_wp2_with fail
 go_ret
 exact ⟨rfl,rfl⟩
theorem yL (g:Nat) (s:Rs) (w:World) (hr:PRd w g s) (h0:s.err=0):
 Calls Tryz.prog 93 #[.pointer (some ⟨g,0,none⟩)] w fun e' w'=>e' = .returned (.int .i64 s.rest.length)∧Below w.heap.size w w':=by
 have x2:=hr.err
 obtain ⟨all,A,c,k,hg,hs,hne,hk,hl,hrest⟩:=hr
 have x0:w.cell? ⟨g,0,none⟩=some (.slice A all.length c):=by simp [World.cell?,hg]
 have x1:w.cell? ⟨g,1,none⟩=some (.int .i64 k):=by simp [World.cell?,hg]
 have HL:Hid ((s.rest.length:Int)=(all.length:Int) - (k:Int)):=aF (by rw [hrest h0,List.length_drop];omega)
 have hw:IntKind.i64.wrap ((all.length:Int) - (k:Int))=(all.length:Int) - (k:Int):=by rw [IntKind.wrap_i64];omega
 rw [h0] at x2
 clear hrest hs hg hne
 go_enter Tryz.func93,Tryz.ntmps93
 go_wp2_with fail
 go_quiet (fail)
 go_wp2_with fail
 go_ret
 exact ⟨by rw [HL.out];rfl,bA (aV _ _) _⟩
theorem xCT (g:Nat) (s:Rs) (w:World) (hr:PRd w g s):
 Calls Tryz.prog 51 #[.pointer (some ⟨g,0,none⟩)] w fun e' w'=>e' = .returned (.int .i64 (endS s))∧Below w.heap.size w w':=by
 have HE:=aF (gZ g s w hr)
 by_cases h0:s.err=0
 ·have HL:=aF (yL g s w hr h0)
  by_cases hl:0<s.rest.length
  ·have HR:Hid (endS s=11):=aF (by unfold endS;rw [aY h0,aY hl])
   have e1:((s.rest.length:Int) == 0)=false:=beq_false_of_ne (by omega)
   generalize s.rest.length=n at *
   rw [h0] at HE
   clear hr h0
   go_enter Tryz.func51,Tryz.ntmps51
   go_wp2_with (first
    | (go_at_call 93;refine HL.out.mono ?_;rintro e' w1 ⟨rfl,hb1⟩)
    | (go_at_call 89;refine HE.out.mono ?_;rintro e' w1 ⟨rfl,hw⟩;obtain rfl:=hw))
   go_ret
   exact ⟨by rw [HR.out];rfl,by assumption⟩
  ·have HR:Hid (endS s=0):=aF (by unfold endS;rw [aY h0,aX hl])
   have hz:s.rest.length=0:=by omega
   rw [h0] at HE
   rw [hz] at HL
   clear hr h0 hl hz
   go_enter Tryz.func51,Tryz.ntmps51
   go_wp2_with (first
    | (go_at_call 93;refine HL.out.mono ?_;rintro e' w1 ⟨rfl,hb1⟩)
    | (go_at_call 89;refine HE.out.mono ?_;rintro e' w1 ⟨rfl,hw⟩;obtain rfl:=hw))
   go_ret
   exact ⟨by rw [HR.out];rfl,by assumption⟩
 ·have HR:Hid (endS s=s.err):=aF (by unfold endS;rw [aX h0])
  have e1:(s.err == 0)=false:=by simp [h0]
  have e2:(s.err != 0)=true:=by simp [h0]
  generalize s.err=er at *
  clear hr
  go_enter Tryz.func51,Tryz.ntmps51
  go_wp2_with (go_at_call 89;refine HE.out.mono ?_;rintro e' w1 ⟨rfl,hw⟩;obtain rfl:=hw)
  go_ret
  exact ⟨by rw [HR.out];rfl,aV _ _⟩
structure TabAt (w:World) (t:Nat) (T:Option Addr) (c:Nat) (tbl:List ByteArray):Prop where
 at_:w.heap[t]?=some (.cells #[.slice T tbl.length c] 130)
 row:Slc 1 RN w T c tbl
 lt:∀a,T=some a→a.block<w.heap.size
theorem TabAt.keep {w w':World} {t c:Nat} {T:Option Addr} {tbl:List ByteArray} (h:TabAt w t T c tbl) (hb:Below w.heap.size w w'):TabAt w' t T c tbl:=
 ⟨(hb.block t (Array.getElem?_eq_some_iff.1 h.at_).1).trans h.at_,h.row.keep RN.keeps hb,fun a ha=>bN (h.lt a ha) hb.size⟩
structure DTab (w:World) (h g t:Nat) (T:Option Addr) (c:Nat) (tbl:List ByteArray):Prop where
 at_:w.heap[h]?=some (.cells #[.pointer (some ⟨g,0,none⟩),.pointer (some ⟨t,0,none⟩)] 96)
 hg:h≠g
 tg:t≠g
 tab:TabAt w t T c tbl
 ne:∀a,T=some a→a.block≠g
theorem DTab.but {w w':World} {h g t c:Nat} {T:Option Addr} {tbl:List ByteArray} (H:DTab w h g t T c tbl) (hb:But g w w'):DTab w' h g t T c tbl:=
 ⟨(hb.block h (Array.getElem?_eq_some_iff.1 H.at_).1 H.hg).trans H.at_,H.hg,H.tg,⟨(hb.block t (Array.getElem?_eq_some_iff.1 H.tab.at_).1 H.tg).trans H.tab.at_,xBK H.tab.row hb H.ne,fun a ha=>bN (H.tab.lt a ha) hb.size⟩,H.ne⟩
theorem DTab.keep {w w':World} {h g t c:Nat} {T:Option Addr} {tbl:List ByteArray} (H:DTab w h g t T c tbl) (hb:Below w.heap.size w w'):DTab w' h g t T c tbl:=H.but (But.of_below hb)
theorem DTab.c0 {w:World} {h g t c:Nat} {T:Option Addr} {tbl:List ByteArray} (H:DTab w h g t T c tbl):w.cell? ⟨h,0,none⟩=some (.pointer (some ⟨g,0,none⟩)):=by
 have:=H.at_
 simp [World.cell?,this]
theorem DTab.c1 {w:World} {h g t c:Nat} {T:Option Addr} {tbl:List ByteArray} (H:DTab w h g t T c tbl):w.cell? ⟨h,1,none⟩=some (.pointer (some ⟨t,0,none⟩)):=by
 have:=H.at_
 simp [World.cell?,this]
theorem eZ (h g t:Nat) (T:Option Addr) (c:Nat) (tbl:List ByteArray) (s:Rs) (w:World) (H:DTab w h g t T c tbl) (hr:PRd w g s):
 Calls Tryz.prog 50 #[.pointer (some ⟨h,0,none⟩)] w fun e' w'=>e' = .returned (.int .i64 (numS s).1)∧PRd w' g (numS s).2∧But g w w':=by
 have HC:=aF (yH g s 65535 w hr)
 have x0:=H.c0
 have hle:=wZ 65535 s
 unfold numS
 generalize uintS 65535 s=R at *
 clear hr H
 go_enter Tryz.func50,Tryz.ntmps50
 go_wp2_with (go_at_call 92;refine HC.out.mono ?_;rintro e' w1 ⟨rfl,hr1,hb1⟩;have HR1:=aF hr1;have HB1:=aF hb1;clear hr1 hb1)
 go_ret
 exact ⟨rfl,HR1.out,HB1.out⟩
theorem xCS (t:Nat) (T:Option Addr) (c:Nat) (tbl:List ByteArray) (w:World) (H:TabAt w t T c tbl):
 Calls Tryz.prog 137 #[.pointer (some ⟨t,0,none⟩)] w fun e' w'=>e' = .returned (.int .i64 tbl.length)∧w'=w:=by
 have x0:w.cell? ⟨t,0,none⟩=some (.slice T tbl.length c):=by
  have:=H.at_
  simp [World.cell?,this]
 clear H
 go_enter Tryz.func137,Tryz.ntmps137
 go_wp2_with fail
 go_ret
 exact ⟨rfl,rfl⟩
theorem xFU (t:Nat) (T:Option Addr) (c:Nat) (tbl:List ByteArray) (i:Nat) (w:World) (H:TabAt w t T c tbl):
 Calls Tryz.prog 86 #[.pointer (some ⟨t,0,none⟩),.int .i64 i] w fun e' w'=>e' = .returned (.tuple #[.string ((tbl[i]?).getD ByteArray.empty),.bool (decide (i<tbl.length))])∧w'=w:=by
 have x0:w.cell? ⟨t,0,none⟩=some (.slice T tbl.length c):=by
  have:=H.at_
  simp [World.cell?,this]
 have HL:=aF (xCS t T c tbl w H)
 have hle:=H.row.le
 have hbg:=H.row.big
 by_cases hlt:i<tbl.length
 ·obtain ⟨b,o,rfl,hb0,y0⟩:=H.row.sl.at_ hlt
  have HA:Hid ((tbl[i]?).getD ByteArray.empty=tbl[i]):=aF (by rw [bB hlt];rfl)
  have y1:w.cell? ⟨b,o+i,none⟩=some (.string tbl[i]):=by simpa [RN] using y0
  generalize tbl[i]=x at *
  have HD:Hid (decide (i<tbl.length)=true):=aF (by simp [hlt])
  generalize tbl.length=n at *
  have e1:¬((i:Int) ≥ (n:Int)):=by omega
  clear H y0
  go_enter Tryz.func86,Tryz.ntmps86
  go_wp2_with (go_at_call 137;refine HL.out.mono ?_;rintro e' w1 ⟨rfl,hw⟩;obtain rfl:=hw)
  refine bodyPost_ret (v:= .tuple #[.string x,.bool true]) (by simp [results,Tryz.results86,go_sem] <;> rfl) rfl ⟨by rw [HA.out,HD.out],rfl⟩
 ·have HA:Hid ((tbl[i]?).getD ByteArray.empty=ByteArray.empty):=aF (by rw [cE (by omega)];rfl)
  have HD:Hid (decide (i<tbl.length)=false):=aF (by simp [hlt])
  have e1:(tbl.length:Int)≤(i:Int):=by omega
  clear H
  go_enter Tryz.func86,Tryz.ntmps86
  go_wp2_with (go_at_call 137;refine HL.out.mono ?_;rintro e' w1 ⟨rfl,hw⟩;obtain rfl:=hw)
  refine bodyPost_ret (v:= .tuple #[.string ByteArray.empty,.bool false]) (by simp [results,Tryz.results86,go_sem] <;> rfl) rfl ⟨by rw [HA.out,HD.out],rfl⟩
theorem wY (most:Nat) (s:Rs) (h:(uintS most s).2.err≠0):(uintS most s).1=0:=by
 unfold uintS at h ⊢
 split
 ·split
  ·split
   ·rfl
   ·rename_i h1 h2 h3
    rw [aY h1,aY h2,aX h3] at h
    exact absurd rfl h
  ·rfl
 ·rfl
theorem lA (h g t:Nat) (T:Option Addr) (c:Nat) (tbl:List ByteArray) (s:Rs) (w:World) (H:DTab w h g t T c tbl) (hr:PRd w g s):
 Calls Tryz.prog 42 #[.pointer (some ⟨h,0,none⟩)] w fun e' w'=>∃v,e' = .returned (.string v)∧((nameS tbl s).2.err=0→v=(nameS tbl s).1)∧PRd w' g (nameS tbl s).2∧But g w w':=by
 have HC:=aF (eZ h g t T c tbl s w.drew (H.keep (aV _ w).drew) (hr.keep (aV _ w).drew))
 have hle:=wZ 65535 s
 have hz:=wY 65535 s
 have x0:=H.c0
 have x1:=H.c1
 have HH:=aF H
 unfold numS at HC
 obtain ⟨Q,hQ⟩:∃Q,nameS tbl s=Q:=⟨_,rfl⟩
 rw [hQ]
 unfold nameS at hQ
 generalize uintS 65535 s=R at *
 obtain ⟨n,s1⟩:=R
 simp only at HC hle hz hQ
 have HQ:=aF hQ
 clear hQ
 clear hr H
 go_enter Tryz.func42,Tryz.ntmps42
 go_wp2_with fail
 refine eT (S:=fun X=>X.cell? ⟨h,1,none⟩=some (.pointer (some ⟨t,0,none⟩))) (by kernel_rfl) ?_
 have hS:w.drew.cell? ⟨h,1,none⟩=some (.pointer (some ⟨t,0,none⟩)):=x1
 (iterate 5 (refine dR (v:=?_) (by kernel_rfl) (fun _ _ _ h=>h) (Or.inl ⟨by rfl,?_⟩) hS ?_;rotate_left;(next=>(rintro X s1;(try simp only [aI]);go_simp;rfl));simp only [aI,Act.put,aJ]))
 (refine eJ (by kernel_rfl) (fun K1 hK1=>?_);simp only [aI,Act.put,aJ];rw [aY (by rfl)];go_simp)
 refine HC.out.mono ?_
 rintro e' w1 ⟨rfl,hr1,hb1⟩
 have H1:DTab w1 h g t T c tbl:=HH.out.but ((But.of_below (g:=g) (aV _ w).drew).trans hb1)
 have hS1:=H1.c1
 refine hK1.out _ _ (fun _=>hS1) ?_
 (refine eJ (by kernel_rfl) (fun K1 hK1=>?_);simp only [aI,Act.put,aJ];rw [aY (by rfl)];go_simp)
 refine (xFU t T c tbl n w1 H1.tab).mono ?_
 rintro e' w2 ⟨rfl,hw⟩
 obtain rfl:=hw.symm
 refine hK1.out _ _ (fun _=>hS1) ?_
 have hS:=hS1
 (iterate 5 (refine dR (v:=?_) (by kernel_rfl) (fun _ _ _ h=>h) (Or.inl ⟨by rfl,?_⟩) hS ?_;rotate_left;(next=>(rintro X _;(try simp only [aI]);go_simp;rfl));simp only [aI,Act.put,aJ]))
 refine fJ rfl ?_
 have y0:=H1.c0
 have HR1:=aF hr1
 have HB1:Hid (But g w w1):=aF ((But.of_below (g:=g) (aV _ w).drew).trans hb1)
 clear hr1 hb1 hS hS1 x0 x1
 by_cases hlt:n<tbl.length
 ·have hd:decide (n<tbl.length)=true:=by simp [hlt]
  rw [hd]
  have HV:Hid (Q=(if s1.err=0 then tbl[n] else ByteArray.empty,s1)):=aF (by
   rw [← HQ.out,bB hlt]
   split <;> rfl)
  have HX:Hid ((tbl[n]?).getD ByteArray.empty=tbl[n]):=aF (by rw [bB hlt];rfl)
  rw [HX.out]
  generalize tbl[n]=x at *
  go_wp2_with fail
  go_ret
  rw [HV.out]
  refine ⟨x,rfl,?_,HR1.out,HB1.out⟩
  intro h0
  simp only at h0 ⊢
  rw [aY h0]
 ·have hd:decide (n<tbl.length)=false:=by simp [hlt]
  rw [hd]
  have HF:=aF (qJ g s1 20 (by omega) w1 HR1.out)
  have HV:Hid (Q=(ByteArray.empty,failS 20 s1)):=aF (by
   rw [← HQ.out,cE (by omega)]
   unfold failS
   split <;> rfl)
  have HF20:=aF (show ∃R,failS 20 s1=R from ⟨_,rfl⟩)
  generalize (tbl[n]?).getD ByteArray.empty=x at *
  have hn:(failS 20 s1).err=0→False:=by
   unfold failS
   split
   ·simp
   ·rename_i h1;exact h1
  generalize failS 20 s1=Z at *
  have HN:=aF hn
  clear HF20 hn
  go_wp2_with (go_at_call 87;refine HF.out.mono ?_;rintro e' w2 ⟨rfl,hr2,hb2⟩;have HR2:=aF hr2;have HB2:=aF hb2;clear hr2 hb2)
  go_ret
  rw [HV.out]
  refine ⟨x,rfl,?_,HR2.out,HB1.out.trans HB2.out⟩
  intro h0
  exact (HN.out h0).elim
theorem But.blk {g k:Nat} {o:Obj} {w w':World} (h:But g w w') (hk:w.heap[k]?=some o) (hne:k≠g):w'.heap[k]?=some o:=
 (h.block k (Array.getElem?_eq_some_iff.1 hk).1 hne).trans hk
theorem put2 {g i j:Nat} {w W w2:World} {x y:Value} (h3:But g W w2) (hb:Below w.heap.size w W):But g w ((w2.setCell ⟨w.heap.size,i,none⟩ x).setCell ⟨w.heap.size,j,none⟩ y)∧True:=by
 refine ⟨⟨h3.os.trans hb.os,h3.tape.trans hb.tape,h3.output.trans hb.output,?_,fun k hk hne=>?_⟩,trivial⟩
 ·have:=hb.size
  have:=h3.size
  simp;omega
 ·rw [bG _ _ _ k (by simp;omega),bG _ _ _ k (by simp;omega),h3.block k (by have:=hb.size;omega) hne,hb.block k hk]
theorem yK (h g t:Nat) (T:Option Addr) (c:Nat) (tbl:List ByteArray) (s:Rs) (w:World) (H:DTab w h g t T c tbl) (hr:PRd w g s):
 Calls Tryz.prog 45 #[.pointer (some ⟨h,0,none⟩)] w fun e' w'=>e' = .returned (.agg #[.int .i64 (pairS s).1.1,.int .i64 (pairS s).1.2])∧PRd w' g (pairS s).2∧But g w w':=by
 have hgl:=hr.lt
 obtain ⟨W,hW⟩:∃W,w.alloc (.cells #[.int .i64 0,.int .i64 0] 79)=W:=⟨_,rfl⟩
 have hb:Below w.heap.size w W:=by rw [← hW];exact (aV _ _).alloc (aW _) _
 have hk:W.heap[w.heap.size]?=some (.cells #[.int .i64 0,.int .i64 0] 79 (0,0)):=by rw [← hW];exact heap_alloc_new w _
 have HN1:=aF (eZ h g t T c tbl s W (H.keep hb) (hr.keep hb))
 have HN2:Hid (∀w1,PRd w1 g (numS s).2→But g W w1→Calls Tryz.prog 50 #[.pointer (some ⟨h,0,none⟩)] w1 fun e' w'=>e' = .returned (.int .i64 (numS (numS s).2).1)∧PRd w' g (numS (numS s).2).2∧But g w1 w'):=aF (fun w1 h1 h2=>eZ h g t T c tbl _ w1 ((H.keep hb).but h2) h1)
 have HK:=aF hk
 have HB:=aF hb
 have HP:Hid (pairS s=(((numS s).1,(numS (numS s).2).1),(numS (numS s).2).2)):=aF rfl
 generalize pairS s=Q at *
 generalize (numS (numS s).2).1=b at *
 generalize (numS (numS s).2).2=s2 at *
 generalize numS s=R at *
 obtain ⟨a,s1⟩:=R
 simp only at HN1 HN2 HP
 clear hr H hk hb
 go_enter Tryz.func45,Tryz.ntmps45
 go_wp2_with fail
 go_at_call 50
 refine HN1.out.mono ?_
 rintro e' w1 ⟨rfl,hr1,hb1⟩
 have HC2:=HN2.out w1 hr1 hb1
 have HB1:=aF hb1
 clear hr1 hb1 HN1 HN2
 go_wp2_with fail
 go_at_call 50
 refine HC2.mono ?_
 rintro e' w2 ⟨rfl,hr2,hb2⟩
 have hb3:=HB1.out.trans hb2
 have hk2:=hb3.blk HK.out (by omega)
 have HR2:=aF hr2
 have HB3:=aF hb3
 have HK2:=aF hk2
 obtain ⟨v0,v1,v2,v3⟩:=blk2 hk2
 clear hr2 hb2 hb3 hk2 HC2
 go_wp2_with fail
 have n:=kJ (.int .i64 a) (.int .i64 b) HK2.out
 have hbb:But g w ((w2.setCell ⟨w.heap.size,0,none⟩ (.int .i64 a)).setCell ⟨w.heap.size,1,none⟩ (.int .i64 b)):=(put2 HB3.out HB.out).1
 have hrr:=HR2.out.low (w':=(w2.setCell ⟨w.heap.size,0,none⟩ (.int .i64 a)).setCell ⟨w.heap.size,1,none⟩ (.int .i64 b)) (by simp) (fun k hk=>by
  rw [bG _ _ _ k (by simp;omega),bG _ _ _ k (by simp;omega)])
 generalize (w2.setCell ⟨w.heap.size,0,none⟩ (.int .i64 a)).setCell ⟨w.heap.size,1,none⟩ (.int .i64 b)=W3 at *
 obtain ⟨u0,u1,_,_⟩:=blk2 n
 refine bodyPost_ret (v:= .agg #[.int .i64 a,.int .i64 b]) (by simp [results,Tryz.results45,go_sem,u0,u1] <;> rfl) rfl ?_
 rw [HP.out]
 exact ⟨rfl,hrr,hbb⟩
theorem vU (h g t:Nat) (T:Option Addr) (c:Nat) (tbl:List ByteArray) (s:Rs) (w:World) (H:DTab w h g t T c tbl) (hr:PRd w g s):
 Calls Tryz.prog 49 #[.pointer (some ⟨h,0,none⟩)] w fun e' w'=>∃v,e' = .returned (.agg #[.string v,.int .i64 (localS tbl s).1.type])∧((localS tbl s).2.err=0→v=(localS tbl s).1.name)∧PRd w' g (localS tbl s).2∧But g w w':=by
 have hgl:=hr.lt
 obtain ⟨W,hW⟩:∃W,w.alloc (.cells #[.string ⟨#[]⟩,.int .i64 0] 87)=W:=⟨_,rfl⟩
 have hb:Below w.heap.size w W:=by rw [← hW];exact (aV _ _).alloc (aW _) _
 have hk:W.heap[w.heap.size]?=some (.cells #[.string ⟨#[]⟩,.int .i64 0] 87 (0,0)):=by rw [← hW];exact heap_alloc_new w _
 have HN1:=aF (lA h g t T c tbl s W (H.keep hb) (hr.keep hb))
 have HN2:Hid (∀w1,PRd w1 g (nameS tbl s).2→But g W w1→Calls Tryz.prog 50 #[.pointer (some ⟨h,0,none⟩)] w1 fun e' w'=>e' = .returned (.int .i64 (numS (nameS tbl s).2).1)∧PRd w' g (numS (nameS tbl s).2).2∧But g w1 w'):=aF (fun w1 h1 h2=>eZ h g t T c tbl _ w1 ((H.keep hb).but h2) h1)
 have HK:=aF hk
 have HB:=aF hb
 have HP:Hid (localS tbl s=(⟨(nameS tbl s).1,(numS (nameS tbl s).2).1⟩,(numS (nameS tbl s).2).2)):=aF rfl
 have HST:Hid ((numS (nameS tbl s).2).2.err=0→(nameS tbl s).2.err=0):=aF (fun h0=>Decidable.byContradiction fun h1=>by
  have:(numS (nameS tbl s).2).2=(nameS tbl s).2:=by
   unfold numS uintS
   rw [aX h1]
  rw [this] at h0
  exact h1 h0)
 generalize localS tbl s=Q at *
 generalize (numS (nameS tbl s).2).1=b at *
 generalize (numS (nameS tbl s).2).2=s2 at *
 generalize nameS tbl s=R at *
 obtain ⟨a,s1⟩:=R
 simp only at HN1 HN2 HP HST
 clear hr H hk hb
 go_enter Tryz.func49,Tryz.ntmps49
 go_wp2_with fail
 go_at_call 42
 refine HN1.out.mono ?_
 rintro e' w1 ⟨v,rfl,hv,hr1,hb1⟩
 have HV:=aF hv
 have HC2:=HN2.out w1 hr1 hb1
 have HB1:=aF hb1
 clear hr1 hb1 HN1 HN2 hv
 go_wp2_with fail
 go_at_call 50
 refine HC2.mono ?_
 rintro e' w2 ⟨rfl,hr2,hb2⟩
 have hb3:=HB1.out.trans hb2
 have hk2:=hb3.blk HK.out (by omega)
 have HR2:=aF hr2
 have HB3:=aF hb3
 have HK2:=aF hk2
 obtain ⟨v0,v1,v2,v3⟩:=blk2 hk2
 clear hr2 hb2 hb3 hk2 HC2
 go_wp2_with fail
 have n:=kJ (.string v) (.int .i64 b) HK2.out
 have hbb:But g w ((w2.setCell ⟨w.heap.size,0,none⟩ (.string v)).setCell ⟨w.heap.size,1,none⟩ (.int .i64 b)):=(put2 HB3.out HB.out).1
 have hrr:=HR2.out.low (w':=(w2.setCell ⟨w.heap.size,0,none⟩ (.string v)).setCell ⟨w.heap.size,1,none⟩ (.int .i64 b)) (by simp) (fun k hk=>by
  rw [bG _ _ _ k (by simp;omega),bG _ _ _ k (by simp;omega)])
 generalize (w2.setCell ⟨w.heap.size,0,none⟩ (.string v)).setCell ⟨w.heap.size,1,none⟩ (.int .i64 b)=W3 at *
 obtain ⟨u0,u1,_,_⟩:=blk2 n
 refine bodyPost_ret (v:= .agg #[.string v,.int .i64 b]) (by simp [results,Tryz.results49,go_sem,u0,u1] <;> rfl) rfl ?_
 rw [HP.out]
 exact ⟨v,rfl,fun h0=>HV.out (HST.out h0),hrr,hbb⟩
theorem jK (most:Nat) (s:Rs):(countS most s).1≤most:=by
 unfold countS
 split
 ·split
  ·split
   ·simp
   ·split
    ·simp
    ·simp only;omega
  ·simp
 ·simp
theorem fN (most:Nat) (s:Rs) (h:(countS most s).2.err≠0):(countS most s).1=0:=by
 unfold countS at h ⊢
 split
 ·split
  ·split
   ·rfl
   ·split
    ·rfl
    ·rename_i h1 h2 h3 h4
     rw [aY h1,aY h2,aX h3,aX h4] at h
     exact absurd rfl h
  ·rfl
 ·rfl
theorem dZ (w:World) (cs:List Value) (t:TypeId) (j:Nat) (u:Value) (h:cs[j]?=some u):(w.alloc (.cells cs.toArray t)).cell? ⟨w.heap.size,j,none⟩=some u:=by
 rw [World.cell?_alloc_at _ _ _ _ (by simp)]
 simpa using h
end
section
open Go Go.RowKit
section
variable {P:Program}
theorem iP (w:World) {ops:Array Oper} {rest:List Oper} {o:Oper} {a:Act} {Q:Exit→Act→World→Prop} (hgd:o.guard=none) (s x:Operand) (t:TypeId)
 (ho:o.op = .call { callee:= .builtin .append,args:= #[s,x],argTypes:= #[t,t] }) (e:TypeId) (i:TypeInfo) (ht:P.underlying t=some (.slice e)) (hi:P.info? e=some i)
 (b off n c m:Nat) (hs:a.eval s = .slice (some ⟨b,off,none⟩) n c) (hx:a.eval x = .slice none 0 m) (hn:n≤c)
 (h:wpList P ops Q rest (a.put o.dst (.slice (some ⟨b,off,none⟩) n c)) w):wpList P ops Q (o :: rest) a w:=by
 have hr:=run_append_room_src (P:=P) w t t o.type e i ht hi b off n c (.slice none 0 m) 0 [] (Src.ofNil w ht m) (by omega) (by simp) (by simp)
 have hw:w.setCells b (off+n * i.size) []=w:=rfl
 rw [hw] at hr
 refine wpList_plain hgd fun K hK=>?_
 unfold Oper.wp execOp
 simp only [ho,resolve,invoke,builtin,Sem.run_bind,Sem.run_pure,Result.andThen_ok,List.map_toArray,cK,cM,hs,hx,hr]
 exact hK _ _ h
end
section
variable {P:Program}
theorem fX (w:World) {ops:Array Oper} {rest:List Oper} {o:Oper} {a:Act} {Q:Exit→Act→World→Prop} (hgd:o.guard=none) (s x:Operand) (t:TypeId)
 (ho:o.op = .call { callee:= .builtin .append,args:= #[s,x],argTypes:= #[t,t] })
 (base:Nat) (e:TypeId) (i:TypeInfo) (z:Value) (size bytes:Nat) (ht:P.underlying t=some (.slice e)) (hi:P.info? e=some i) (hz:i.zero=some z)
 (hsize:i.size=size) (hby:i.bytes=bytes) (hzs:z.cells.size=size) (hsz:0<size)
 (v:Value) (n:Nat) (xs:List Value) (hs:a.eval s=v) (hown:w.ownsRow base e size v n xs) (hn0:0<n)
 (A:Option Addr) (m c:Nat) (news:List Value) (hx:a.eval x = .slice A m c) (hnone:A=none→m=0) (hl:news.length=m * size) (hnews:∀ad,A=some ad→∀j u,news[j]?=some u→w.cell? (ad.add j)=some u) (h1:∀u∈news,u.oneCell'=true)
 (h63:n+m≤maxLen) (hbytes:(n+m) * bytes≤140737488355328) (hbase:base≤w.heap.size)
 (h:∀v' w',w'.ownsRow base e size v' (n+m) (xs ++ news)→w.grownBy w' v.ownBlock→wpList P ops Q rest (a.put o.dst v') w'):wpList P ops Q (o :: rest) a w:=by
 cases A with
 | some ad=>exact wpList_append_own _ hgd s x t ho base e i z size bytes ht hi hz hsize hby hzs hsz v n xs hs hown ad m c news hx hl (hnews ad rfl) h1 h63 hbytes hbase (fun v' w' g1 g2 _=>h v' w' g1 g2)
 | none=>
   have hm:=hnone rfl
   subst hm
   have hnn:news=[]:=bU (by simpa using hl)
   subst hnn
   rcases hown.2 with ⟨_,h0⟩ | ⟨g,cap,cur,hv,_,_,hc,_⟩
   ·omega
   ·subst hv
    refine iP w hgd s x t ho e i ht hi g 0 n cap c hs hx hc (h _ _ ?_ ⟨rfl,rfl,rfl,aW _,fun _ _ _=>rfl⟩)
    simpa using hown
end
theorem sF (w:World) (x:Value) (e:TypeId) (base:Nat) (hb:base≤w.heap.size):(w.alloc (.cells #[x] e)).ownsRow base e 1 (.slice (some ⟨w.heap.size,0,none⟩) 1 1) 1 [x]:=
 ⟨rfl,.inr ⟨w.heap.size,1,#[x],rfl,hb,heap_alloc_new w _,aW _,by decide,rfl,rfl⟩⟩
theorem xHQ (b o n:Nat):(⟨b,o,none⟩:Addr).add n=⟨b,o+n,none⟩:=by
 unfold Addr.add
 split
 ·next h=>subst h;rfl
 ·rfl
theorem alF (w:World) (o:Obj):Below w.heap.size w (w.alloc o):=(aV _ _).alloc (aW _) _
theorem gR {X:World} {b m n:Nat} {e:TypeId} {v:Value} {xs:List Value} (h:X.ownsRow b e m v n xs):∃A c,v = .slice A n c:=by
 rcases h.2 with ⟨h1,h2⟩ | ⟨g',cap,cur,h1,_⟩
 ·exact ⟨none,0,by rw [h1,h2]⟩
 ·exact ⟨_,cap,h1⟩
end
section
open Go.RowKit Go.Shelf
theorem rB:∀(ps:List Pj) (x:Pj),chkP (ps ++ [x])=if chkP ps=0 then chkP [x] else chkP ps
 | [],x=>by simp [chkP]
 | y :: ps,x=>by
   have ih:=rB ps x
   rw [List.cons_append,chkP,chkP,ih]
   grind
theorem uM {l:Int} {ps:List Pj} {x:Pj} (h:chk l (ps ++ [x])=0):chk l ps=0∧(x.kind=0∨x.kind=1)∧0≤x.field:=by
 unfold chk at *
 rw [rB] at h
 simp only [aZ,cH,chkP] at h
 grind
def stepE (ts:List Ty) (q:Int × Int) (x:Pj):Int × Int:=if q.2≠0 then q else match ts[q.1.toNat]? with
 | none=>q
 | some t=>prT t x
theorem gE (ts:List Ty) (i:Int) (k:Nat) (ps:List Pj):walkS ts i k ps≠[]:=by cases ps <;> simp [walkS]
theorem fM {s:Stp} {L:List Stp} (h:L≠[]):lastS (s :: L)=lastS L:=by
 unfold lastS
 cases L with
 | nil=>exact absurd rfl h
 | cons a b=>rw [List.getLast?_cons_cons]
theorem mB (ts:List Ty) (x:Pj):∀(ps:List Pj) (i:Int) (k:Nat),lastS (walkS ts i k (ps ++ [x]))=stepE ts (lastS (walkS ts i k ps)) x
 | [],i,k=>by
   rw [List.nil_append,walkS,walkS]
   cases h:ts[i.toNat]? with
   | none=>simp [lastS,stepE,h]
   | some t=>
     simp only []
     by_cases h2:(prT t x).2=0
     ·rw [aY h2]
      simp only [walkS]
      simp [lastS,stepE,h]
      rw [← h2]
     ·rw [aX h2]
      simp [lastS,stepE,h]
 | y :: ps,i,k=>by
   rw [List.cons_append,walkS,walkS]
   cases h:ts[i.toNat]? with
   | none=>simp [lastS,stepE,h]
   | some t=>
     simp only []
     by_cases h2:(prT t y).2=0
     ·rw [aY h2,aY h2,fM (gE _ _ _ _),fM (gE _ _ _ _)]
      exact mB ts x ps _ _
     ·rw [aX h2,aX h2]
      simp [lastS,stepE,h2]
theorem tB {ts:List Ty} {ls:List Lc} {l:Int} {ps:List Pj} (h:chk l ps≠0):tyOf ts ls l ps=(0,chk l ps):=by
 simp [tyOf,pth,h,lastS]
theorem lS {l:Int} {ps:List Pj} (h:chk l ps=0):0≤l∧ps.length≤32:=by
 unfold chk at h
 grind
theorem tA {ts:List Ty} {ls:List Lc} {l:Int} {ps:List Pj} (h:chk l ps=0) (hl:(ls.length:Int)≤l):tyOf ts ls l ps=(0,3):=by
 have:=lS h
 simp [tyOf,pth,h,lastS,cE (show ls.length≤l.toNat by omega)]
theorem xBC {ts:List Ty} {ls:List Lc} {l:Nat} (h:chk l []=0) (hl:l<ls.length):tyOf ts ls l []=(ls[l].type,0):=by
 simp [tyOf,pth,h,lastS,hl,walkS]
theorem pI {ts:List Ty} {ls:List Lc} {l:Int} {ps:List Pj} {x:Pj} (h:chk l (ps ++ [x])=0) (hl:l<ls.length):tyOf ts ls l (ps ++ [x])=stepE ts (tyOf ts ls l ps) x:=by
 have h0:=(uM h).1
 have:=lS h
 have h2:ls[l.toNat]?=some ls[l.toNat]:=bB (by omega)
 simp only [tyOf,pth,h,h0,h2]
 exact mB ts x ps _ _
theorem xFR {t:Ty} {x:Pj} (h:(prT t x).2≠0):(prT t x).1=0:=by
 unfold prT at *
 grind
theorem pF (ts:List Ty):∀(ps:List Pj) (i:Int) (k:Nat),(lastS (walkS ts i k ps)).2≠0→(lastS (walkS ts i k ps)).1=0
 | [],i,k=>by simp [walkS,lastS]
 | y :: ps,i,k=>by
   rw [walkS]
   cases h:ts[i.toNat]? with
   | none=>simp [lastS]
   | some t=>
     simp only []
     by_cases h2:(prT t y).2=0
     ·rw [aY h2,fM (gE _ _ _ _)]
      exact pF ts ps _ _
     ·rw [aX h2]
      intro h3
      simpa [lastS] using xFR h2
theorem xBD {ts:List Ty} {ls:List Lc} {l:Int} {ps:List Pj} (h:(tyOf ts ls l ps).2≠0):(tyOf ts ls l ps).1=0:=by
 unfold tyOf pth at *
 split at h
 ·rename_i h2;rw [aY h2];rfl
 ·rename_i h2
  rw [aX h2] at *
  cases hx:ls[l.toNat]? with
  | none=>simp [lastS]
  | some x=>
    rw [hx] at h
    exact pF ts ps _ _ h
theorem gO {ts:List Ty} {ls:List Lc} (hok:Okay ts ls) {l:Int} {ps:List Pj} (h:(tyOf ts ls l ps).2=0):0≤(tyOf ts ls l ps).1∧(tyOf ts ls l ps).1<ts.length:=by
 have hp:=xEB hok l ps
 unfold tyOf lastS at *
 cases hg:(pth ts ls l ps).getLast? with
 | none=>
   rw [List.getLast?_eq_none_iff] at hg
   unfold pth at hg
   split at hg
   ·cases hg
   ·split at hg
    ·cases hg
    ·exact absurd hg (gE _ _ _ _)
 | some s=>
   rw [hg] at h
   exact hp s (List.mem_of_getLast? hg) h
def refT (ts:List Ty) (i:Int) (x:Pj):List Ty:=if x.kind=0 then ts[i.toNat]?.toList else []
def refsW (ts:List Ty):Int→List Pj→List Ty
 | _,[]=>[]
 | i,x :: r=>refT ts i x ++ match ts[i.toNat]? with
   | none=>[]
   | some t=>refsW ts (prT t x).1 r
theorem vK (ts:List Ty) (pre r:List Pj) (x:Pj) (i e:Int):fW ts (pre ++ x :: r) ⟨pre.length,i,e⟩=refT ts i x:=by
 unfold fW refT
 rw [List.getElem?_append_right (aW _),Nat.sub_self,List.getElem?_cons_zero]
 simp only []
 split
 ·cases ts[i.toNat]? <;> rfl
 ·rfl
theorem mK (ts:List Ty):∀(ps pre:List Pj) (i:Int),(lastS (walkS ts i pre.length ps)).2=0→refsL ts (pre ++ ps) (walkS ts i pre.length ps)=refsW ts i ps
 | [],pre,i,_=>by simp [walkS,refsL,fW,refsW]
 | x :: r,pre,i,h=>by
   rw [walkS] at h ⊢
   rw [refsL,List.flatMap_cons,vK,refsW]
   congr 1
   cases ht:ts[i.toNat]? with
   | none=>rfl
   | some t=>
     rw [ht] at h
     simp only [] at h ⊢
     by_cases h2:(prT t x).2=0
     ·rw [aY h2] at h ⊢
      rw [fM (gE _ _ _ _)] at h
      have ih:=mK ts r (pre ++ [x]) (prT t x).1 (by simpa using h)
      simpa [refsL] using ih
     ·rw [aX h2] at h
      exact absurd (by simpa [lastS] using h) h2
theorem mI (ts:List Ty) (x:Pj):∀(qs:List Pj) (i:Int) (k:Nat),(lastS (walkS ts i k qs)).2=0→refsW ts i (qs ++ [x])=refsW ts i qs ++ refT ts (lastS (walkS ts i k qs)).1 x
 | [],i,k,_=>by
   simp only [List.nil_append,refsW,walkS,lastS]
   cases ts[i.toNat]? <;> simp
 | y :: qs,i,k,h=>by
   rw [List.cons_append,refsW,refsW]
   rw [walkS] at h ⊢
   cases ht:ts[i.toNat]? with
   | none=>simp [lastS,refT,ht]
   | some t=>
     rw [ht] at h
     simp only [] at h ⊢
     by_cases h2:(prT t y).2=0
     ·rw [aY h2] at h ⊢
      rw [fM (gE _ _ _ _)] at h ⊢
      rw [mI ts x qs _ _ h,bK]
     ·rw [aX h2] at h
      exact absurd (by simpa [lastS] using h) h2
theorem pG (ts:List Ty):∀(ps:List Pj) (i:Int) (k:Nat),(walkS ts i k ps).any (fun s=>s.err != 0)=((lastS (walkS ts i k ps)).2 != 0)
 | [],i,k=>by simp [walkS,lastS]
 | x :: r,i,k=>by
   rw [walkS,List.any_cons]
   cases ht:ts[i.toNat]? with
   | none=>simp [lastS]
   | some t=>
     simp only []
     by_cases h2:(prT t x).2=0
     ·rw [aY h2,fM (gE _ _ _ _),pG ts r _ _]
      simp
     ·rw [aX h2]
      simp [lastS]
theorem rZ (ts:List Ty) (ls:List Lc) (l:Int) (ps:List Pj):(pth ts ls l ps).any (fun s=>s.err != 0)=((tyOf ts ls l ps).2 != 0):=by
 unfold tyOf pth
 split
 ·simp [lastS]
 ·cases ls[l.toNat]? with
  | none=>simp [lastS]
  | some x=>exact pG ts ps _ _
theorem mJ {ts:List Ty} {ls:List Lc} {l:Int} {ps:List Pj} (h:(tyOf ts ls l ps).2≠0):refsOf ts ls l ps=([],false):=by
 rw [refsOf,rZ,aY (by simpa using h)]
theorem fD {ts:List Ty} {ls:List Lc} {l:Int} {ps:List Pj} (h:(tyOf ts ls l ps).2=0):chk l ps=0∧0≤l∧l<ls.length:=by
 have hc:chk l ps=0:=by
  apply Classical.byContradiction
  intro hc
  rw [tB hc] at h
  exact hc h
 refine ⟨hc,(lS hc).1,?_⟩
 apply Classical.byContradiction
 intro hl
 rw [tA hc (by omega)] at h
 cases h
theorem oJ {ts:List Ty} {ls:List Lc} {l:Nat} {ps:List Pj} (hc:chk l ps=0) (hl:l<ls.length):pth ts ls l ps=walkS ts ls[l].type 0 ps:=by
 unfold pth
 rw [aX (by simpa using hc),bV,bB hl]
theorem iJ {ts:List Ty} {ls:List Lc} {l:Nat} {ps:List Pj} (h:(tyOf ts ls l ps).2=0) (hl:l<ls.length):refsOf ts ls l ps=(refsW ts ls[l].type ps,true):=by
 rw [refsOf,rZ,aX (by simpa using h),oJ (fD h).1 hl]
 have:=mK ts ps [] ls[l].type (by
  have h':=h
  rw [tyOf,oJ (fD h).1 hl] at h'
  exact h')
 rw [List.nil_append] at this
 rw [show ([]:List Pj).length=0 from rfl] at this
 rw [this]
theorem sZ {ts:List Ty} {ls:List Lc} {l:Int} {ps:List Pj} {x:Pj} (h:(tyOf ts ls l (ps ++ [x])).2=0):(tyOf ts ls l ps).2=0:=by
 have hg:=fD h
 rw [pI hg.1 hg.2.2] at h
 apply Classical.byContradiction
 intro hc
 unfold stepE at h
 rw [aY hc] at h
 exact hc h
theorem iT {ts:List Ty} {ls:List Lc} {l:Int} {ps:List Pj} (h:(tyOf ts ls l ps).2=0) (k:Nat):(tyOf ts ls l (ps.take k)).2=0:=by
 by_cases hk:ps.length≤k
 ·rwa [List.take_of_length_le hk]
 ·have h2:=iT h (k+1)
  rw [bE (by omega)] at h2
  exact sZ h2
termination_by ps.length - k
theorem rV {ts:List Ty} {ls:List Lc} {l:Int} {ps:List Pj} {x:Pj} (h:(tyOf ts ls l (ps ++ [x])).2=0):(refsOf ts ls l (ps ++ [x])).1=(refsOf ts ls l ps).1 ++ refT ts (tyOf ts ls l ps).1 x:=by
 obtain ⟨hc,hl0,hl⟩:=fD h
 obtain ⟨m,rfl⟩:=bF hl0
 have hl':m<ls.length:=by omega
 have h0:=sZ h
 rw [iJ h hl',iJ h0 hl']
 have h1:tyOf ts ls m ps=lastS (walkS ts ls[m].type 0 ps):=by rw [tyOf,oJ (fD h0).1 hl']
 rw [h1] at h0 ⊢
 exact mI ts x ps _ _ h0
theorem vJ (ts:List Ty) (ls:List Lc) (l:Int):(refsOf ts ls l []).1=[]:=by
 by_cases h:(tyOf ts ls l []).2=0
 ·obtain ⟨hc,hl0,hl⟩:=fD h
  obtain ⟨m,rfl⟩:=bF hl0
  rw [iJ h (by omega),refsW]
 ·rw [mJ h]
end
section
open Go Go.RowKit
def isLet (c:UInt8):Bool:=decide (97≤c.toNat∧c.toNat≤122) || decide (65≤c.toNat∧c.toNat≤90) || decide (c.toNat=95)
def isDig (c:UInt8):Bool:=decide (48≤c.toNat∧c.toNat≤57)
def qT:List UInt8→Bool
 | []=>false
 | c :: r=>isLet c && r.all (fun c=>isLet c || isDig c) && decide (r.length≤254)
def isIdent (s:ByteArray):Bool:=qT s.data.toList
def memN (s:ByteArray) (l:List ByteArray):Bool:=l.any (fun x=>decide (x=s))
theorem tZ {s:ByteArray} {l:List ByteArray}:memN s l=true↔s∈l:=by
 simp only [memN,List.any_eq_true,decide_eq_true_eq]
 exact ⟨fun ⟨x,h,e⟩=>e ▸ h,fun h=>⟨s,h,rfl⟩⟩
def namesE:List ByteArray→List ByteArray→Int
 | _,[]=>0
 | seen,s :: r=>if isIdent s=false then 12 else if memN s seen=true then 21 else namesE (s :: seen) r
def namesC (l:List ByteArray):Int:=if 65535<l.length then 15 else namesE [] l
def pairE (n:Int) (q:Option (Int × Int)) (p:Int × Int):Int:=
 if p.1<0∨p.2<0∨n≤p.1∨n≤p.2 then 3 else if p.1=p.2 then 2 else
  match q with
  | none=>0
  | some q=>if p.1<q.1∨(p.1=q.1∧p.2≤q.2) then 21 else 0
def pairsE (n:Int):Option (Int × Int)→List (Int × Int)→Int
 | _,[]=>0
 | q,p :: r=>if pairE n q p=0 then pairsE n (some p) r else pairE n q p
def pairsC (n:Int) (l:List (Int × Int)):Int:=if 65535<l.length then 15 else pairsE n none l
def depF (d:List Int):Int→List Int→Option Int
 | a,[]=>some a
 | a,i :: r=>if i<0 then none else match d[i.toNat]? with
   | none=>none
   | some x=>depF d (max a x) r
def tyE (prev:List Ty) (d:List Int) (n:Int) (t:Ty):Int × Int:=
 if t.kind<0∨4<t.kind then (14,0)
 else if (t.kind≠3∧(t.mu=true∨t.reg≠0∨t.elem≠0))∨(t.kind≠4∧0<t.flds.length) then (2,0)
 else if t.kind=3∧(t.reg<0∨n≤t.reg) then (3,0)
 else match depF d 0 (if t.kind=3 then [t.elem] else t.flds) with
  | none=>(3,0)
  | some k=>
    if t.kind=4∧(t.flds.length=0∨65535<t.flds.length) then (15,0)
    else if 32≤k then (19,0)
    else if t∈prev then (21,0)
    else (0,k+1)
def typesE (n:Int):List Ty→List Int→List Ty→Int
 | _,_,[]=>0
 | prev,d,t :: r=>if (tyE prev d n t).1=0 then typesE n (prev ++ [t]) (d ++ [(tyE prev d n t).2]) r else (tyE prev d n t).1
def typesC (n:Int) (l:List Ty):Int:=if 65535<l.length then 15 else typesE n [] [] l
def localsE (nt:Nat):List ByteArray→List Lc→Int
 | _,[]=>0
 | seen,x :: r=>if isIdent x.name=false then 12 else if memN x.name seen=true then 21 else if x.type<0∨(nt:Int)≤x.type then 3 else localsE nt (x.name :: seen) r
def localsC (b:Bdy):Int:=
 if 65535<b.locals.length then 15 else
  if localsE b.types.length [] b.locals=0 then (if b.args<0∨(b.locals.length:Int)<b.args then 3 else 0) else localsE b.types.length [] b.locals
def firstE:List Int→Int
 | []=>0
 | e :: r=>if e=0 then firstE r else e
def declC (b:Bdy):Int:=
 if isIdent b.name=false then 12
 else if firstE [namesC b.regions,pairsC b.regions.length b.outl,typesC b.regions.length b.types,localsC b]=0 then
  (if b.blocks.length=0∨65535<b.blocks.length then 15 else 0)
 else firstE [namesC b.regions,pairsC b.regions.length b.outl,typesC b.regions.length b.types,localsC b]
def zeroP (p:Plc):Bool:=decide (p.loc=0) && decide (p.proj.length=0)
def fail22 (b:Bool):Int:=if b=true then 22 else 0
def copF (ts:List Ty):Nat→Int→Bool
 | 0,_=>false
 | n+1,i=>if i<0 then false else match ts[i.toNat]? with
   | none=>false
   | some t=>if t.kind=3 then !t.mu else t.flds.all (copF ts n)
def copB (ts:List Ty) (i:Int):Bool:=copF ts (i.toNat+1) i
def nextR (pairs:List (Int × Int)) (x:Int):List Int→List Int
 | set=>pairs.foldl (fun s p=>if p.1=x∧p.2∉s then s ++ [p.2] else s) set
def outF (pairs:List (Int × Int)) (b:Int):Nat→List Int→Nat→Bool
 | 0,_,_=>false
 | f+1,set,i=>match set[i]? with
   | none=>false
   | some x=>if x=b then true else outF pairs b f (nextR pairs x set) (i+1)
def outB (pairs:List (Int × Int)) (n:Int) (a b:Int):Bool:=
 if a<0∨n≤a∨b<0∨n≤b then false else outF pairs b (n.toNat+1) [a] 0
def subF (pairs:List (Int × Int)) (n:Int) (ts:List Ty):Nat→Int→Int→Bool
 | 0,_,_=>false
 | f+1,s,t=>if s<0∨t<0 then false else match ts[s.toNat]?,ts[t.toNat]? with
   | some a,some b=>
     decide (a.kind=b.kind) && decide (a.mu=b.mu) && decide (a.flds.length=b.flds.length) && (a.flds.zip b.flds).all (fun p=>subF pairs n ts f p.1 p.2) &&
      (decide (a.kind≠3) || (outB pairs n a.reg b.reg && subF pairs n ts f a.elem b.elem && (!a.mu || subF pairs n ts f b.elem a.elem)))
   | _,_=>false
def subB (b:Bdy) (s t:Int):Bool:=subF b.outl b.regions.length b.types (s.toNat+t.toNat+1) s t
def tyB (b:Bdy) (p:Plc):Int × Int:=tyOf b.types b.locals p.loc p.proj
def mutB (b:Bdy) (p:Plc):Bool:=(refsOf b.types b.locals p.loc p.proj).2 && !(refsOf b.types b.locals p.loc p.proj).1.any notMu
def kindT (b:Bdy) (i:Int):Int:=((b.types[i.toNat]?).map (·.kind)).getD 0
def opE (b:Bdy) (o:Opd):Int:=
 if o.kind<0∨4<o.kind then 14
 else if (o.kind≠2∧o.kind≠3∧o.n≠0)∨(1<o.kind∧zeroP o.place=false) then 2
 else if o.kind=3∧o.n≠0∧o.n≠1 then 3
 else if 1<o.kind then 0
 else if (tyB b o.place).2≠0 then (tyB b o.place).2
 else if o.kind=0 then fail22 (!copB b.types (tyB b o.place).1) else fail22 (hasD o.place.proj 0)
def kindO (b:Bdy) (o:Opd):Int:=
 if o.kind=2 then 2 else if o.kind=3 then 1 else if o.kind=4 then 0 else kindT b (tyB b o.place).1
def fitsO (b:Bdy) (o:Opd) (t:Int):Bool:=
 if o.kind≠0∧o.kind≠1 then decide (kindO b o=kindT b t) else subB b (tyB b o.place).1 t
def opsE (b:Bdy):List Opd→List Int→Int
 | [],_=>0
 | o :: r,[]=>if opE b o=0 then opsE b r [] else opE b o
 | o :: r,f :: fs=>if opE b o=0 then (if fitsO b o f=true then opsE b r fs else 22) else opE b o
def unusedR (r:Rvl):Bool:=
 let plain:=decide (r.reg=0) && !r.mu && zeroP r.place
 if r.kind=0 then plain && decide (r.op=0) && decide (r.args.length=1)
 else if r.kind=1 then decide (r.op=0) && decide (r.args.length=0)
 else if r.kind=2 then plain && decide (r.args.length=1)
 else if r.kind=3 then plain && decide (r.args.length=2)
 else plain && decide (r.op=0)
def iQ:List (Int × Int):=[(2,2),(1,1)]
def gJ:List (Int × Int):=[(2,2),(2,2),(2,2),(2,1),(2,1),(1,1)]
def operE (b:Bdy) (r:Rvl) (t:Int) (tab:List (Int × Int)):Int:=
 if r.op<0∨(tab.length:Int)≤r.op then 14
 else if opsE b r.args []≠0 then opsE b r.args []
 else match tab[r.op.toNat]? with
  | none=>0
  | some x=>if r.args.all (fun o=>decide (kindO b o=x.1))=true then fail22 (decide (kindT b t≠x.2)) else 22
def borE (b:Bdy) (r:Rvl) (t:Int):Int:=
 if (tyB b r.place).2≠0 then (tyB b r.place).2
 else if r.reg<0∨(b.regions.length:Int)≤r.reg then 3
 else match b.types[t.toNat]? with
  | none=>0
  | some x=>
    if x.kind≠3∨x.reg≠r.reg∨x.mu≠r.mu∨x.elem≠(tyB b r.place).1 then 22
    else if r.mu=true∧mutB b r.place=false then 22
    else if (refsOf b.types b.locals r.place.loc r.place.proj).1.all (fun q=>outB b.outl b.regions.length q.reg r.reg)=true then 0 else 22
def rvE (b:Bdy) (r:Rvl) (t:Int):Int:=
 if r.kind<0∨4<r.kind then 14
 else if unusedR r=false then 2
 else if r.kind=0 then opsE b r.args [t]
 else if r.kind=1 then borE b r t
 else if r.kind=2 then operE b r t iQ
 else if r.kind=3 then operE b r t gJ
 else match b.types[t.toNat]? with
  | none=>0
  | some x=>if x.kind≠4∨x.flds.length≠r.args.length then 22 else opsE b r.args x.flds
def writE (b:Bdy) (p:Plc):Int:=if (tyB b p).2≠0 then (tyB b p).2 else fail22 (!mutB b p)
def blankR (r:Rvl):Bool:=decide (r.kind=0) && decide (r.op=0) && decide (r.args.length=0) && decide (r.reg=0) && !r.mu && zeroP r.place
def stE (b:Bdy) (s:Stm):Int:=
 if s.kind=0 then
  (if s.loc≠0 then 2 else if writE b s.place≠0 then writE b s.place else rvE b s.rv (tyB b s.place).1)
 else if s.kind=1 then
  (if zeroP s.place=false∨blankR s.rv=false then 2 else if s.loc<0∨(b.locals.length:Int)≤s.loc then 3 else 0)
 else if s.kind=2 then
  (if zeroP s.place=false∨blankR s.rv=false∨s.loc≠0 then 2 else 0)
 else 14
def fieldsT (t:Trm):Bool:=
 if t.kind=0 then decide (t.targets.length=1) && decide (t.args.length=0) && zeroP t.place && decide (t.name.size=0)
 else if t.kind=1 then decide (t.targets.length=2) && decide (t.args.length=1) && zeroP t.place && decide (t.name.size=0)
 else if t.kind=3 then decide (t.targets.length=1)
 else if t.kind=4 then decide (t.targets.length=1) && decide (t.args.length=0) && decide (t.name.size=0)
 else decide (t.targets.length=0) && decide (t.args.length=0) && zeroP t.place && decide (t.name.size=0)
def tmE (b:Bdy) (t:Trm):Int:=
 if t.kind<0∨5<t.kind then 14
 else if fieldsT t=false then 2
 else if t.targets.all (fun k=>decide (0≤k∧k<(b.blocks.length:Int)))=false then 3
 else if t.kind=1 then
  (match t.args with
    | []=>0
    | o :: _=>if opE b o≠0 then opE b o else fail22 (decide (kindO b o≠1)))
 else if t.kind=3 then
  (if isIdent t.name=false then 12 else if 65535<t.args.length then 15 else if opsE b t.args []≠0 then opsE b t.args [] else writE b t.place)
 else if t.kind=4 then
  (if (tyB b t.place).2≠0 then (tyB b t.place).2 else fail22 (hasD t.place.proj 0))
 else 0
def stsE (b:Bdy):List Stm→Int
 | []=>0
 | s :: r=>if stE b s=0 then stsE b r else stE b s
def bkE (b:Bdy) (x:Blk):Int:=
 if 65535<x.stmts.length then 15 else if stsE b x.stmts≠0 then stsE b x.stmts else tmE b x.term
def bksE (b:Bdy):List Blk→Int
 | []=>0
 | x :: r=>if bkE b x=0 then bksE b r else bkE b x
def chkB (b:Bdy):Int:=if declC b=0 then bksE b b.blocks else declC b
end
section
open Go Go.RowKit Go.Maps
def OwnB (P:Program) (k e:TypeId) (w:World) (b n:Nat) (f:Lit→Bool):Prop:=
 ∃D:DataW Unit,w.ownsMap P k (plainElem P e) b n D∧∀kl,D.atKey kl (.lit (.bool false)) = .lit (.bool (f kl))
def strF (g:List UInt8→Bool):Lit→Bool
 | .string l=>g l
 | _=>false
section
variable {P:Program} {k e:TypeId} {w:World} {b n:Nat} {f:Lit→Bool}
theorem qI (he:P.underlying e=some .bool) (v:Bool):plainElem (H:=Unit) P e (.bool v)=some (.lit (.bool v),[]):=plainElem_bool he v
theorem oK (he:P.underlying e=some .bool) {v:Value} {z:DataW Unit × List MemPlace} (h:plainElem P e v=some z):∃x,v = .bool x∧z=(.lit (.bool x),[]):=by
 unfold plainElem at h
 rw [he] at h
 cases v <;> simp at h
 exact ⟨_,rfl,h.symm⟩
theorem OwnB.made (w:World) (P:Program) (k e:TypeId):OwnB P k e (w.alloc (.map #[] 0)) w.heap.size 0 (fun _=>false):=
 ⟨.map [],World.ownsMap_made w P k _,fun _=>rfl⟩
theorem OwnB.kept {w':World} {row:Option Nat} (h:OwnB P k e w b n f) (hg:w.grownBy w' row) (hne:some b≠row):OwnB P k e w' b n f:=by
 obtain ⟨D,h1,h2⟩:=h
 exact ⟨D,h1.kept hg hne,h2⟩
theorem OwnB.alloc (h:OwnB P k e w b n f) (o:Obj):OwnB P k e (w.alloc o) b n f:=h.kept (World.grownBy_alloc w o none) (by simp)
theorem OwnB.lt (h:OwnB P k e w b n f):b<w.heap.size:=by
 obtain ⟨D,h1,_⟩:=h
 exact h1.lt
theorem OwnB.block {w':World} (h:OwnB P k e w b n f) (hb:w'.heap[b]?=w.heap[b]?):OwnB P k e w' b n f:=by
 obtain ⟨D,⟨es,clock,h1,h3,h4,h5⟩,h2⟩:=h
 exact ⟨D,⟨es,clock,hb.trans h1,h3,h4,h5⟩,h2⟩
theorem OwnB.below {w':World} (h:OwnB P k e w b n f) (hb:Below w.heap.size w w'):OwnB P k e w' b n f:=h.block (hb.block b h.lt)
theorem OwnB.look {t:TypeId} (h:OwnB P k e w b n f) (K:Keyed P k) (ht:P.underlying t=some (.map k e)) (he:P.underlying e=some .bool) (hz:(zeroValue e).run P w = .ok (.bool false) w)
 {key:Value} {kl:Lit} (hkey:keyOf P k key=some kl):(Instr.lookup t (.map (some b)) key false).run P w = .ok (.bool (f kl)) w:=by
 obtain ⟨D,h1,h2⟩:=h
 obtain ⟨v,ps,hrun,hv⟩:=h1.lookup K ht hz (qI he false) hkey
 obtain ⟨x,rfl,hx⟩:=oK he hv
 rw [h2] at hx
 injection hx with hx
 injection hx with hx
 injection hx with hx
 rw [hrun,hx]
theorem OwnB.store {t:TypeId} (h:OwnB P k e w b n f) (K:Keyed P k) (ht:P.underlying t=some (.map k e)) (he:P.underlying e=some .bool) (hn:n<maxLen)
 {key:Value} {kl:Lit} (hkey:keyOf P k key=some kl) (hk:WideAt.IsKeyLit kl) (v:Bool) {f':Lit→Bool} (f1:f' kl=v) (f2:∀x,x≠kl→f' x=f x):
 ∃w',(Instr.mapUpdate t (.map (some b)) key (.bool v)).run P w = .ok () w'∧OwnB P k e w' b (n+1) f'∧w.grownBy w' (some b):=by
 obtain ⟨D,h1,h2⟩:=h
 obtain ⟨w',hrun,h3,h4⟩:=h1.update K ht hn hkey (qI he v)
 refine ⟨w',hrun,⟨_,h3,fun x=>?_⟩,h4⟩
 by_cases hx:x=kl
 ·subst hx
  rw [atKey_put_same h1.isMap hk,f1]
 ·rw [atKey_put_other hx,f2 x hx,h2]
end
theorem dI {P:Program} (w:World) {ops:Array Oper} {rest:List Oper} {o:Oper} {a:Act} {Q:Exit→Act→World→Prop}
 (hg:o.guard=none) (m x:Operand) (t:TypeId) (hop:o.op=Op.lookup t m x false)
 (k e:TypeId) (K:Keyed P k) (ht:P.underlying t=some (.map k e)) (he:P.underlying e=some .bool) (hz:(zeroValue e).run P w = .ok (.bool false) w) (b n:Nat) (f:Lit→Bool)
 (hm:a.eval m = .map (some b)) (hown:OwnB P k e w b n f) (key:Value) (kl:Lit) (hx:a.eval x=key) (hkey:keyOf P k key=some kl)
 (hK:wpList P ops Q rest (a.put o.dst (.bool (f kl))) w):
 wpList P ops Q (o :: rest) a w:=by
 refine wpList_plain hg fun K' hK'=>?_
 unfold Oper.wp
 simp [execOp,hop,hm,hx,hown.look K ht he hz hkey,Result.andThen]
 exact hK' _ _ hK
theorem eS {P:Program} (w:World) {ops:Array Oper} {rest:List Oper} {o:Oper} {a:Act} {Q:Exit→Act→World→Prop}
 (hg:o.guard=none) (m x v:Operand) (t:TypeId) (hop:o.op=Op.mapUpdate t m x v)
 (k e:TypeId) (K:Keyed P k) (ht:P.underlying t=some (.map k e)) (he:P.underlying e=some .bool) (b n:Nat) (f:Lit→Bool)
 (hm:a.eval m = .map (some b)) (hown:OwnB P k e w b n f) (hn:n<maxLen) (key:Value) (kl:Lit) (val:Bool) (hx:a.eval x=key) (hv:a.eval v = .bool val) (hkey:keyOf P k key=some kl) (hk:WideAt.IsKeyLit kl)
 (f':Lit→Bool) (f1:f' kl=val) (f2:∀x,x≠kl→f' x=f x)
 (hK:∀w',OwnB P k e w' b (n+1) f'→w.grownBy w' (some b)→wpList P ops Q rest (a.put o.dst undef) w'):
 wpList P ops Q (o :: rest) a w:=by
 refine wpList_plain hg fun K' hK'=>?_
 obtain ⟨w',hrun,r1,r2⟩:=hown.store K ht he hn hkey hk val f1 f2
 unfold Oper.wp
 simp [execOp,hop,hm,hx,hv,hrun,Result.andThen]
 exact hK' _ _ (hK w' r1 r2)
def OwnV (P:Program) (k:TypeId) (w:World) (b n:Nat) (f:Lit→Value) (z:Value):Prop:=
 ∃D:DataW Value,w.ownsMap P k (fun v=>some (.held v,[])) b n D∧∀kl,D.atKey kl (.held z) = .held (f kl)
section
variable {P:Program} {k:TypeId} {w:World} {b n:Nat} {f:Lit→Value} {z:Value}
theorem OwnV.made (w:World) (P:Program) (k:TypeId) (z:Value):OwnV P k (w.alloc (.map #[] 0)) w.heap.size 0 (fun _=>z) z:=
 ⟨.map [],World.ownsMap_made w P k _,fun _=>rfl⟩
theorem OwnV.lt (h:OwnV P k w b n f z):b<w.heap.size:=by
 obtain ⟨D,h1,_⟩:=h
 exact h1.lt
theorem OwnV.block {w':World} (h:OwnV P k w b n f z) (hb:w'.heap[b]?=w.heap[b]?):OwnV P k w' b n f z:=by
 obtain ⟨D,⟨es,clock,h1,h3,h4,h5⟩,h2⟩:=h
 exact ⟨D,⟨es,clock,hb.trans h1,h3,h4,h5⟩,h2⟩
theorem OwnV.look {t e:TypeId} (h:OwnV P k w b n f z) (K:Keyed P k) (ht:P.underlying t=some (.map k e)) (hz:(zeroValue e).run P w = .ok z w)
 {key:Value} {kl:Lit} (hkey:keyOf P k key=some kl):(Instr.lookup t (.map (some b)) key false).run P w = .ok (f kl) w:=by
 obtain ⟨D,h1,h2⟩:=h
 obtain ⟨v,ps,hrun,hv⟩:=h1.lookup K ht hz rfl hkey
 rw [h2] at hv
 injection hv with hv
 injection hv with hv
 injection hv with hv
 rw [hrun,hv]
theorem OwnV.store {t e:TypeId} (h:OwnV P k w b n f z) (K:Keyed P k) (ht:P.underlying t=some (.map k e)) (hn:n<maxLen)
 {key:Value} {kl:Lit} (hkey:keyOf P k key=some kl) (hk:WideAt.IsKeyLit kl) (v:Value) {f':Lit→Value} (f1:f' kl=v) (f2:∀x,x≠kl→f' x=f x):
 ∃w',(Instr.mapUpdate t (.map (some b)) key v).run P w = .ok () w'∧OwnV P k w' b (n+1) f' z∧w.grownBy w' (some b):=by
 obtain ⟨D,h1,h2⟩:=h
 obtain ⟨w',hrun,h3,h4⟩:=h1.update K ht hn hkey (d:= .held v) rfl
 refine ⟨w',hrun,⟨_,h3,fun x=>?_⟩,h4⟩
 by_cases hx:x=kl
 ·subst hx
  rw [atKey_put_same h1.isMap hk,f1]
 ·rw [atKey_put_other hx,f2 x hx,h2]
end
theorem eP {w w':World} {b n:Nat} (hg:w.grownBy w' (some b)) (hb:n≤b) (hs:n≤w.heap.size):Below n w w':=
 ⟨hg.os,hg.tape,hg.output,hg.size,fun k hk=>hg.block k (by omega) (by simp;omega)⟩
end
section
open Go Go.RowKit
theorem gS {X:World} {b m n:Nat} {e:TypeId} {v:Value} {xs:List Value} (h:X.ownsRow b e m v n xs):∃A c,v = .slice A n c:=by
 rcases h.2 with ⟨h1,h2⟩ | ⟨g',cap,cur,h1,_⟩
 ·exact ⟨none,0,by rw [h1,h2]⟩
 ·exact ⟨_,cap,h1⟩
theorem wrap8 (n:Int):IntKind.u8.wrap n=n % 256:=by simp [IntKind.wrap,IntKind.bits,IntKind.signed]
theorem or128 (m:Nat):bits .or .u8 (IntKind.u8.wrap (m:Int)) 128=((m % 128+128:Nat):Int):=by
 have hw:IntKind.u8.wrap (m:Int)=((m % 256:Nat):Int):=by
  simp [IntKind.wrap,IntKind.bits,IntKind.signed]
 rw [hw]
 have h1:(BitVec.ofInt 8 ((m % 256:Nat):Int)).toNat=m % 256:=by
  rw [BitVec.ofInt_natCast,BitVec.toNat_ofNat];exact Nat.mod_eq_of_lt (by omega)
 have h2:(BitVec.ofInt 8 128).toNat=128:=rfl
 have h3:(m % 256) ||| 128=m % 128+128:=by
  have e:(m % 128) ||| 128=m % 128+128:=xED (m % 128) 1 7 (by omega)
  by_cases h:m % 256<128
  ·rw [show m % 256=m % 128 by omega,e]
  ·rw [show m % 256=m % 128+128 by omega,← e,Nat.or_assoc,Nat.or_self]
 show IntKind.u8.wrap ((BitVec.ofInt 8 ((m % 256:Nat):Int) ||| BitVec.ofInt 8 128).toNat:Int)=_
 rw [BitVec.toNat_or,h1,h2,h3,show ∀n:Int,IntKind.u8.wrap n=n % 256 from fun n=>by simp [IntKind.wrap,IntKind.bits,IntKind.signed]]
 omega
theorem yJ (n:Nat) (w:World) (hn:n<2 ^ 64):
 Calls Tryz.prog 187 #[.int .u64 n] w fun e' w'=>(∃k:Nat,k≤10∧e' = .returned (.int .i64 k))∧w'=w:=by
 have hb:bits .or .u64 (n:Int) 1=((n ||| 1:Nat):Int):=bits_or_u64_nat n 1 (by omega) (by omega)
 have hlt:n ||| 1<2 ^ 64:=Nat.or_lt_two_pow hn (by omega)
 obtain ⟨m,hm⟩:∃m,n ||| 1=m:=⟨_,rfl⟩
 rw [hm] at hb hlt
 have HC:=aF (Tryz.bits_Len64 (m:Int) w (by omega) (by omega))
 rw [bV] at HC
 have hbl:Lib.bitLen m≤64:=Lib.bitLen_le m 64 (aW _) hlt
 generalize Lib.bitLen m=q at *
 clear hm
 go_enter Tryz.func187,Tryz.ntmps187
 go_wp2_with (go_at_call 171;refine HC.out.mono ?_;rintro e' w1 ⟨rfl,hw⟩;obtain rfl:=hw.symm)
 go_ret
 exact ⟨⟨(q+6) / 7,by omega,by simp⟩,rfl⟩
theorem xCQ (n:Nat) (w:World) (hn:n<2 ^ 64):
 Calls Tryz.prog 136 #[.int .u64 n] w fun e' w'=>∃A c,e' = .returned (.slice A (putL n).length c)∧w'.ownsRow w.heap.size 5 1 (.slice A (putL n).length c) (putL n).length ((putL n).map encB)∧Below w.heap.size w w':=by
 obtain ⟨i0,hi,hz0,hz1,hz2⟩:=info_parts lM
 have HS:=aF (yJ n w hn)
 go_enter Tryz.func136,Tryz.ntmps136
 go_wp2_with (first
  | (at_make;refine wpList_make_own _ rfl _ _ 34 rfl w.heap.size 5 i0 (.int .u8 0) 1 Tryz.underlying34 hi hz0 hz1 _ _ _ _ rfl rfl rfl (by rw [hz2];omega) (by unfold maxLen;omega) (aW _) ?_)
  | (go_at_call 187;refine HS.out.mono ?_;rintro e' w1 ⟨⟨k,hk,rfl⟩,hw⟩;obtain rfl:=hw.symm))
 intro w1 hown hgrow
 have HO:=aF hown
 have HB:Hid (Below w.heap.size w w1):=aF ⟨hgrow.os,hgrow.tape,hgrow.output,hgrow.size,fun j hj=>hgrow.block j hj (by simp)⟩
 clear hown hgrow HS
 go_wp2_with fail
 go_loopw [0,3] (fun u v wr=>∃(m f:Nat) (acc:List UInt8),u = .int .u64 m∧m<2 ^ (7 * f+1)∧acc.length+f=9∧Hid (wr.ownsRow w.heap.size 5 1 v acc.length (acc.map encB))∧Hid (Below w.heap.size w wr)∧Hid (putL n=acc ++ putF (f+1) m)) (fun u _ _=>(intOf u).toNat)
 case atStart=>exact ⟨n,9,[],rfl,hn,rfl,HO,HB,aF rfl⟩
 case round=>
  obtain ⟨m,f,acc,rfl,hm,hf,HO,HB,HP⟩:=hrel
  have hsz:=HB.out.size
  by_cases hbig:128≤m
  ·cases f with
   | zero=>simp at hm;omega
   | succ f=>
     have hc:(m % 128+128).toUInt8.toNat=m % 128+128:=by simp;omega
     have HP2:Hid (putL n=(acc ++ [(m % 128+128).toUInt8]) ++ putF (f+1) (m / 128)):=aF (by rw [HP.out,tQ (by omega),bK];rfl)
     have hm2:m / 128<2 ^ (7 * f+1):=by
      rw [show 7 * (f+1)+1=7+(7 * f+1) by omega,Nat.pow_add] at hm
      omega
     have HM2:=aF hm2
     have e1:bits .or .u8 ((m:Int) % 256) 128=(((m % 128+128).toUInt8.toNat:Nat):Int):=by rw [← wrap8,or128,hc]
     have hbig':(128:Int)≤(m:Int):=by omega
     have hlen:(acc ++ [(m % 128+128).toUInt8]).length=acc.length+1:=by simp
     have HLEN:=aF hlen
     generalize (m % 128+128).toUInt8=x at *
     have hown2:(wr.alloc (.cells #[.int .u8 x.toNat] 5)).ownsRow w.heap.size 5 1 u3 acc.length (acc.map encB):=HO.out.alloc _
     clear hc hm hlen
     have hacc:acc.length≤9:=by omega
     have hd:((m:Int) / 128)=((m / 128:Nat):Int):=by omega
     have HMS:Hid (m / 128<m):=aF (by omega)
     generalize hq:m / 128=q at *
     clear hq
     go_wp2_with (at_builtin;refine wpList_append_own _ rfl _ _ 34 rfl w.heap.size 5 i0 (.int .u8 0) 1 1 Tryz.underlying34 hi hz0 hz1 hz2 rfl (by decide) _ _ _ rfl hown2 ⟨wr.heap.size,0,none⟩ 1 1 [.int .u8 x.toNat] rfl rfl (fun j u hj=>by rw [add0];exact dZ wr [.int .u8 x.toNat] 5 j u hj) (fun u hu=>by simp at hu;subst hu;rfl) (by unfold maxLen;omega) (by omega) (by simp;omega) ?_)
     intro v' w2 hown' hgrow _
     have HO2:Hid (w2.ownsRow w.heap.size 5 1 v' (acc ++ [x]).length ((acc ++ [x]).map encB)):=aF (by rw [HLEN.out,bS];exact hown')
     have HB2:Hid (Below w.heap.size w w2):=aF ((HB.out.alloc hsz _).grown hgrow (by simp;omega) (fun g hg=>(hown2.lt g hg).1))
     clear hown' hgrow hown2
     go_wp2_with fail
     go_roundw
     case rel=>exact ⟨q,f,acc ++ [x],by first | rfl | (rw [hd]) | simp,HM2.out,by rw [HLEN.out];omega,HO2,HB2,HP2⟩
     case measure=>
      have:=HMS.out
      simp [intOf]
      omega
  ·have hs:m<128:=by omega
   have hbig':¬(128:Int)≤(m:Int):=by omega
   have hc:m.toUInt8.toNat=m:=by simp;omega
   have HP2:Hid (putL n=acc ++ [m.toUInt8]):=aF (by rw [HP.out,jW hs])
   have HC:=aF hc
   have hlen:(acc ++ [m.toUInt8]).length=acc.length+1:=by simp
   have HLEN:=aF hlen
   generalize m.toUInt8=x at *
   have hown2:(wr.alloc (.cells #[.int .u8 m] 5)).ownsRow w.heap.size 5 1 u3 acc.length (acc.map encB):=HO.out.alloc _
   clear hc hlen
   have hacc:acc.length≤9:=by omega
   go_wp2_with (at_builtin;refine wpList_append_own _ rfl _ _ 34 rfl w.heap.size 5 i0 (.int .u8 0) 1 1 Tryz.underlying34 hi hz0 hz1 hz2 rfl (by decide) _ _ _ rfl hown2 ⟨wr.heap.size,0,none⟩ 1 1 [.int .u8 m] rfl rfl (fun j u hj=>by rw [add0];exact dZ wr [.int .u8 m] 5 j u hj) (fun u hu=>by simp at hu;subst hu;rfl) (by unfold maxLen;omega) (by omega) (by simp;omega) ?_)
   intro v' w2 hown' hgrow _
   have HO2:Hid (w2.ownsRow w.heap.size 5 1 v' (acc ++ [x]).length ((acc ++ [x]).map encB)):=aF (by rw [HLEN.out,bS,show [x].map encB=[.int .u8 m] by simp [encB,HC.out]];exact hown')
   have HB2:Hid (Below w.heap.size w w2):=aF ((HB.out.alloc hsz _).grown hgrow (by simp;omega) (fun g hg=>(hown2.lt g hg).1))
   clear hown' hgrow hown2
   obtain ⟨A',c',hv⟩:=gS HO2.out
   subst hv
   go_wp2_with fail
   go_ret
   rw [HP2.out]
   exact ⟨A',c',rfl,HO2.out,HB2.out⟩
end
end Go.Proofs.YtbnljlpefpllcaaGreatDoor
