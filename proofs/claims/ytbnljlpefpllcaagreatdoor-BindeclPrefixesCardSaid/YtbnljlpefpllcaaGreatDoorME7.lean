/-
  Parts of the proof: V12 V14 Queue Memo Pair T1 T2 PT3 PT5 PT4 PTB E3.
-/
import Derived.Test.YtbnljlpefpllcaaGreatDoorME0
import Derived.Test.YtbnljlpefpllcaaGreatDoorME5
import Derived.Test.YtbnljlpefpllcaaGreatDoorME4
import Derived.Test.YtbnljlpefpllcaaGreatDoorME2
import Derived.Test.YtbnljlpefpllcaaGreatDoorME3
import Derived.Test.YtbnljlpefpllcaaGreatDoorME1
import Derived.WideKeyPair
import Derived.WideKeyArr
import Derived.Deep.MidRow
import Derived.Lib.SlicesCompact
import Derived.Sort.Walk0
namespace Go.Proofs.YtbnljlpefpllcaaGreatDoor
set_option maxRecDepth 100000
set_option maxHeartbeats 16000000
section
open Go Go.RowKit
theorem lC {n:Int} {q:Option (Int × Int)} {p:Int × Int} (h:p.1<0∨p.2<0∨n≤p.1∨n≤p.2):pairE n q p=3:=by unfold pairE;rw [aY h]
theorem mS {n:Int} {q:Option (Int × Int)} {p:Int × Int} (h:¬(p.1<0∨p.2<0∨n≤p.1∨n≤p.2)) (h2:p.1=p.2):pairE n q p=2:=by unfold pairE;rw [aX h,aY h2]
theorem mT {n:Int} {p:Int × Int} (h:¬(p.1<0∨p.2<0∨n≤p.1∨n≤p.2)) (h2:¬p.1=p.2):pairE n none p=0:=by unfold pairE;rw [aX h,aX h2]
theorem mR {n:Int} {q p:Int × Int} (h:¬(p.1<0∨p.2<0∨n≤p.1∨n≤p.2)) (h2:¬p.1=p.2):pairE n (some q) p=if 0≤cmp2 q p then 21 else 0:=by
 unfold pairE
 rw [aX h,aX h2]
 simp only [xAJ]
theorem xGP (w:World) (x y:Value) (t:TypeId):(w.alloc (.cells #[x,y] t)).cell? ⟨w.heap.size,0,none⟩=some x∧(w.alloc (.cells #[x,y] t)).cell? ⟨w.heap.size,1,none⟩=some y:=by
 constructor <;> (rw [World.cell?_alloc_at _ _ _ _ (by simp)];rfl)
theorem iK (n:Int) (q:Option (Int × Int)) (p:Int × Int) (r:List (Int × Int)):pairsE n q (p :: r)=if pairE n q p=0 then pairsE n (some p) r else pairE n q p:=rfl
def prevP (l:List (Int × Int)) (k:Nat):Option (Int × Int):=if k=0 then none else l[k - 1]?
theorem mP (l:List (Int × Int)) (n:Int) (A:Option Addr) (c:Nat) (w:World) (hs:Slc 2 RPr w A c l):
 Calls Tryz.prog 120 #[.slice A l.length c,.int .i64 n] w fun e' w'=>e' = .returned (.int .i64 (pairsC n l))∧Below w.heap.size w w':=by
 have hle:=hs.le
 have hbig:=hs.big
 unfold pairsC
 by_cases h0:65535<l.length
 ·rw [aY h0]
  clear hs
  go_enter Tryz.func120,Tryz.ntmps120
  go_wp2_with fail
  go_ret
  exact ⟨rfl,aV _ _⟩
 rw [aX h0]
 obtain ⟨R,hR⟩:∃R,pairsE n none l=R:=⟨_,rfl⟩
 rw [hR]
 have HR:=aF hR
 have HS:=aF hs
 clear hR hs
 go_enter Tryz.func120,Tryz.ntmps120
 go_wp2_with fail
 go_loopw [12] (fun v wr=>∃k:Nat,k≤l.length∧v = .int .i64 k∧Hid (Below w.heap.size w wr)∧Hid (R=pairsE n (prevP l k) (l.drop k))) (fun v _=>l.length - (intOf v).toNat)
 case atStart=>exact ⟨0,by omega,rfl,aF (aV _ _),aF HR.out.symm⟩
 case round=>
  obtain ⟨k,hk,rfl,hB,hr⟩:=hrel
  by_cases hlt:k<l.length
  ·have hd:=cU hlt
   have hsl:=(HS.out.keep RPr.keeps hB.out).sl
   obtain ⟨b,o,rfl,hb,hx⟩:=hsl.at_ hlt
   have HP:Hid (prevP l (k+1)=some l[k]):=aF (by unfold prevP;rw [aX (by omega)];simp [hlt])
   have HQ:Hid (∀j,k=j+1→∃q,prevP l k=some q∧RPr wr wr.heap.size b (o+j * 2) q):=aF (fun j hj=>by
    obtain ⟨b',o',hbo,_,hz⟩:=hsl.at_ (show j<l.length by omega)
    obtain ⟨rfl,rfl⟩:b=b'∧o=o':=by simpa using hbo
    exact ⟨l[j],by unfold prevP;rw [aX (by omega),show k - 1=j by omega];exact bB (by omega),hz⟩)
   obtain ⟨p,hp⟩:∃p,l[k]=p:=⟨_,rfl⟩
   rw [hp] at hd hx HP
   obtain ⟨x0,x1⟩:=hx
   have HN:Hid (R=if pairE n (prevP l k) p=0 then pairsE n (some p) (l.drop (k+1)) else pairE n (prevP l k) p):=aF (by rw [hr.out,hd,iK])
   have hsz:=hB.out.size
   obtain ⟨p1,p2⟩:=p
   simp only at x0 x1
   clear hd hr hsl hp
   by_cases hrg:p1<0∨p2<0∨n≤p1∨n≤p2
   ·have HF:Hid (R=3):=aF (by rw [HN.out,lC hrg];rfl)
    clear HN
    go_wp2_with fail
    all_goals first
     | (go_ret;exact ⟨by rw [HF.out];rfl,hB.out.alloc (by omega) _⟩)
     | (exfalso;omega)
   have e1:¬min p1 p2<0:=by omega
   have e2:¬n≤max p1 p2:=by omega
   by_cases hsm:p1=p2
   ·have HF:Hid (R=2):=aF (by rw [HN.out,mS hrg hsm];rfl)
    have e3:(p1 == p2)=true:=by simp [hsm]
    clear HN hrg
    go_wp2_with fail
    all_goals first
     | (go_ret;exact ⟨by rw [HF.out];rfl,hB.out.alloc (by omega) _⟩)
     | (exfalso;omega)
   have e3:(p1 == p2)=false:=by simp [hsm]
   obtain ⟨W,hW⟩:∃W,W=wr.alloc (.cells #[.int .i64 p1,.int .i64 p2] 79):=⟨_,rfl⟩
   have hBW:Below w.heap.size w W:=by rw [hW];exact hB.out.alloc (by omega) _
   have HBW:=aF hBW
   rcases (show k=0∨∃j,k=j+1 from by cases k;exact .inl rfl;exact .inr ⟨_,rfl⟩) with rfl | ⟨j,rfl⟩
   ·have HF:Hid (R=pairsE n (prevP l 1) (l.drop 1)):=aF (by rw [HN.out,show prevP l 0=none from rfl,mT hrg hsm,aY rfl,HP.out])
    clear HN hrg hsm hBW
    simp only [Nat.zero_mul,Nat.add_zero] at x0 x1
    go_wp2_with fail
    have hS:True:=trivial
    refine eT (S:=fun _=>True) (by kernel_rfl) ?_
    (iterate 3 (refine dR (v:=?_) (by kernel_rfl) (fun _ _ _ h=>h) (Or.inl ⟨by rfl,?_⟩) hS ?_;rotate_left;(next=>(rintro X _;(try simp only [aI]);go_simp;rfl));simp only [aI,Act.put,aJ]))
    (iterate 8 (refine dR (v:=undef) (by kernel_rfl) (fun _ _ _ h=>h) (Or.inr ⟨by rfl,rfl⟩) hS ?_;simp only [aI,Act.put,aJ]))
    (iterate 2 (refine dR (v:=?_) (by kernel_rfl) (fun _ _ _ h=>h) (Or.inl ⟨by rfl,?_⟩) hS ?_;rotate_left;(next=>(rintro X _;(try simp only [aI]);go_simp;rfl));simp only [aI,Act.put,aJ]))
    refine fJ rfl ?_
    go_wp2_with fail
    go_roundw
    case rel=>exact ⟨1,by omega,by go_num,aF (by rw [← hW];exact HBW.out.drew),HF⟩
    case measure=>simp [intOf];omega
   ·obtain ⟨q,hq,q0,q1⟩:=HQ.out j rfl
    have HF:Hid (R=if 0≤cmp2 q (p1,p2) then 21 else pairsE n (prevP l (j+1+1)) (l.drop (j+1+1))):=aF (by
     rw [HN.out,hq,mR hrg hsm,HP.out]
     split <;> simp)
    obtain ⟨n0,n1⟩:=xGP wr (.int .i64 p1) (.int .i64 p2) 79
    have hk0:Below wr.heap.size wr (wr.alloc (.cells #[.int .i64 p1,.int .i64 p2] 79)):=(aV _ _).alloc (aW _) _
    have HC:=aF (qZ q (p1,p2) b (o+j * 2) wr.heap.size 0 (wr.alloc (.cells #[.int .i64 p1,.int .i64 p2] 79)).drew ((hk0.cell (p:=⟨b,o+j * 2,none⟩) hb).trans q0) ((hk0.cell (p:=⟨b,o+j * 2+1,none⟩) hb).trans q1) n0 n1)
    generalize cmp2 q (p1,p2)=cm at HF HC
    clear HN hrg hsm hBW hq q0 q1 n0 n1 hk0
    have hwk:IntKind.i64.wrap (j:Int)=(j:Int):=by rw [IntKind.wrap_i64];omega
    have hj1:(j:Int)<(l.length:Int):=by omega
    go_wp2_with fail
    have hS:True:=trivial
    refine eT (S:=fun _=>True) (by kernel_rfl) ?_
    (iterate 9 (refine dR (v:=?_) (by kernel_rfl) (fun _ _ _ h=>h) (Or.inl ⟨by rfl,?_⟩) hS ?_;rotate_left;(next=>(rintro X _;(try simp only [aI]);go_simp;rfl));simp only [aI,Act.put,aJ]))
    (refine eJ (by kernel_rfl) (fun K1 hK1=>?_);simp only [aI,Act.put,aJ];rw [aY (by rfl)];go_simp)
    refine HC.out.mono ?_
    rintro e' w3 ⟨rfl,hw⟩
    obtain rfl:=hw.symm
    refine hK1.out _ _ (fun _=>trivial) ?_
    (iterate 3 (refine dR (v:=?_) (by kernel_rfl) (fun _ _ _ h=>h) (Or.inl ⟨by rfl,?_⟩) hS ?_;rotate_left;(next=>(rintro X _;(try simp only [aI]);go_simp;rfl));simp only [aI,Act.put,aJ]))
    refine fJ rfl ?_
    by_cases hcm:0≤cm
    ·have HF':Hid (R=21):=aF (by rw [HF.out,aY hcm])
     clear HF
     go_wp2_with fail
     go_ret
     exact ⟨by rw [HF'.out];rfl,by rw [← hW];exact HBW.out.drew⟩
    ·have HF':Hid (R=pairsE n (prevP l (j+1+1)) (l.drop (j+1+1))):=aF (by rw [HF.out,aX hcm])
     clear HF
     go_wp2_with fail
     go_roundw
     case rel=>exact ⟨j+1+1,by omega,by go_num,aF (by rw [← hW];exact HBW.out.drew),HF'⟩
     case measure=>simp [intOf];omega
  ·have HN:Hid (R=0):=aF (by rw [hr.out,bD (by omega)];rfl)
   clear hr
   go_wp2_with fail
   go_ret
   exact ⟨by rw [HN.out];rfl,hB.out⟩
theorem vH (l:List (Int × Int)) (n:Int) (A:Option Addr) (c:Nat) (w:World) (hs:Slc 2 RPr w A c l):
 Calls Tryz.prog 103 #[.slice A l.length c,.int .i64 n] w fun e' w'=>e' = .returned (.int .i64 (pairsC n l))∧w'=w:=by
 have hle:=hs.le
 have hbig:=hs.big
 unfold pairsC
 by_cases h0:65535<l.length
 ·rw [aY h0]
  clear hs
  go_enter Tryz.func103,Tryz.ntmps103
  go_wp2_with fail
  go_ret
  exact ⟨rfl,rfl⟩
 rw [aX h0]
 obtain ⟨R,hR⟩:∃R,pairsE n none l=R:=⟨_,rfl⟩
 rw [hR]
 have HR:=aF hR
 have HS:=aF hs
 clear hR hs
 go_enter Tryz.func103,Tryz.ntmps103
 go_wp2_with fail
 go_loop [5] (fun v=>∃k:Nat,k≤l.length∧v = .int .i64 k∧Hid (R=pairsE n (prevP l k) (l.drop k))) (fun v=>l.length - (intOf v).toNat)
 case atStart=>exact ⟨0,by omega,rfl,aF HR.out.symm⟩
 case round=>
  obtain ⟨k,hk,rfl,hr⟩:=hrel
  by_cases hlt:k<l.length
  ·have hd:=cU hlt
   have hsl:=HS.out.sl
   obtain ⟨b,o,rfl,hb,hx⟩:=hsl.at_ hlt
   have HP:Hid (prevP l (k+1)=some l[k]):=aF (by unfold prevP;rw [aX (by omega)];simp [hlt])
   have HQ:Hid (∀j,k=j+1→∃q,prevP l k=some q∧RPr w w.heap.size b (o+j * 2) q):=aF (fun j hj=>by
    obtain ⟨b',o',hbo,_,hz⟩:=hsl.at_ (show j<l.length by omega)
    obtain ⟨rfl,rfl⟩:b=b'∧o=o':=by simpa using hbo
    exact ⟨l[j],by unfold prevP;rw [aX (by omega),show k - 1=j by omega];exact bB (by omega),hz⟩)
   obtain ⟨p,hp⟩:∃p,l[k]=p:=⟨_,rfl⟩
   rw [hp] at hd hx HP
   obtain ⟨x0,x1⟩:=hx
   have HN:Hid (R=if pairE n (prevP l k) p=0 then pairsE n (some p) (l.drop (k+1)) else pairE n (prevP l k) p):=aF (by rw [hr.out,hd,iK])
   obtain ⟨p1,p2⟩:=p
   simp only at x0 x1
   clear hd hr hsl hp
   by_cases hrg:p1<0∨p2<0∨n≤p1∨n≤p2
   ·have HF:Hid (R=3):=aF (by rw [HN.out,lC hrg];rfl)
    clear HN
    go_wp2_with fail
    all_goals first
     | (go_ret;exact ⟨by rw [HF.out];rfl,rfl⟩)
     | (exfalso;omega)
   have e1:¬p1<0:=by omega
   have e2:¬n≤p1:=by omega
   have e4:¬p2<0:=by omega
   have e5:¬n≤p2:=by omega
   by_cases hsm:p1=p2
   ·have HF:Hid (R=2):=aF (by rw [HN.out,mS hrg hsm];rfl)
    have e3:(p1 == p2)=true:=by simp [hsm]
    clear HN hrg
    go_wp2_with fail
    all_goals first
     | (go_ret;exact ⟨by rw [HF.out];rfl,rfl⟩)
     | (exfalso;omega)
   have e3:(p1 == p2)=false:=by simp [hsm]
   rcases (show k=0∨∃j,k=j+1 from by cases k;exact .inl rfl;exact .inr ⟨_,rfl⟩) with rfl | ⟨j,rfl⟩
   ·have HF:Hid (R=pairsE n (prevP l 1) (l.drop 1)):=aF (by rw [HN.out,show prevP l 0=none from rfl,mT hrg hsm,aY rfl,HP.out])
    clear HN hrg hsm
    simp only [Nat.zero_mul,Nat.add_zero] at x0 x1
    go_wp2_with fail
    go_round
    case rel=>exact ⟨1,by omega,by go_num,HF⟩
    case measure=>simp [intOf];omega
   ·obtain ⟨q,hq,q0,q1⟩:=HQ.out j rfl
    have HF:Hid (R=if 0≤cmp2 q (p1,p2) then 21 else pairsE n (prevP l (j+1+1)) (l.drop (j+1+1))):=aF (by
     rw [HN.out,hq,mR hrg hsm,HP.out]
     split <;> simp)
    have hwk:IntKind.i64.wrap (j:Int)=(j:Int):=by rw [IntKind.wrap_i64];omega
    have hj1:(j:Int)<(l.length:Int):=by omega
    obtain ⟨qa,qb⟩:=q
    simp only at q0 q1
    have hge:=xAJ (p1,p2) (qa,qb)
    simp only at hge
    by_cases hcm:0≤cmp2 (qa,qb) (p1,p2)
    ·have HF':Hid (R=21):=aF (by rw [HF.out,aY hcm])
     have hlex:=hge.1 hcm
     clear HF HN hrg hsm hq hge hcm
     go_wp2_with fail
     all_goals first
      | (go_ret;exact ⟨by rw [HF'.out];rfl,rfl⟩)
      | (exfalso;grind)
    ·have HF':Hid (R=pairsE n (prevP l (j+1+1)) (l.drop (j+1+1))):=aF (by rw [HF.out,aX hcm])
     have hlex:=fun h=>hcm (hge.2 h)
     clear HF HN hrg hsm hq hge hcm
     go_wp2_with fail
     all_goals first
      | (go_round
         case rel=>exact ⟨j+1+1,by omega,by go_num,HF'⟩
         case measure=>simp [intOf];omega)
      | (exfalso;grind)
  ·have HN:Hid (R=0):=aF (by rw [hr.out,bD (by omega)];rfl)
   clear hr
   go_wp2_with fail
   go_ret
   exact ⟨by rw [HN.out];rfl,rfl⟩
end
section
open Go Go.RowKit Go.Maps
def nilS:Value:= .slice none 0 0
def mapF (g:Int→Value):Lit→Value
 | .int .i64 n=>g n
 | _=>nilS
theorem uA {g g':Int→Value} {x:Int} (h:∀y,y≠x→g' y=g y):∀k,k≠Lit.int .i64 x→mapF g' k=mapF g k:=by
 intro k hk
 cases k <;> try rfl
 rename_i q n
 cases q <;> try rfl
 exact h n (fun e=>hk (by rw [e]))
theorem law3:Keyed Tryz.prog 3:=int_keyed Tryz.underlying3
theorem key3 {a:Int} (h0:0≤a) (h1:a≤9223372036854775807):keyOf Tryz.prog 3 (.int .i64 a)=some (.int .i64 a):=keyOf_int_mk Tryz.underlying3 (WalkArith.wf_i64 (by omega))
structure GI (w:World) (base rel:Nat) (M:Bool→Nat) (c:Nat) (n:Int) (L:Bool→Int→List Int) (F:Bool→Int→Value):Prop where
 head:w.heap[rel]?=some (.cells #[.int .i64 n,.map (some (M false)),.map (some (M true))] 244)
 maps:∀s,OwnV Tryz.prog 3 w (M s) c (mapF (F s)) nilS
 rows:∀s x,w.ownsRow base 3 1 (F s x) (L s x).length ((L s x).map (Value.int .i64))
 apart:∀s x s' x' g,(F s x).ownBlock=some g→(F s' x').ownBlock=some g→s=s'∧x=x'
 lrel:rel<base
 lmap:∀s,M s<base
 ne1:∀s,M s≠rel
 ne2:M false≠M true
 low:base≤w.heap.size
theorem OwnV.mono {P:Program} {k:TypeId} {w:World} {b n n':Nat} {f:Lit→Value} {z:Value} (h:OwnV P k w b n f z) (hn:n≤n'):OwnV P k w b n' f z:=by
 obtain ⟨D,h1,h2⟩:=h
 exact ⟨D,h1.mono hn,h2⟩
theorem GI.keep {w w':World} {base rel c:Nat} {M:Bool→Nat} {n:Int} {L:Bool→Int→List Int} {F:Bool→Int→Value} (h:GI w base rel M c n L F) (hb:Below w.heap.size w w'):GI w' base rel M c n L F:=
 ⟨(hb.block _ (Array.getElem?_eq_some_iff.1 h.head).1).trans h.head,fun s=>(h.maps s).block (hb.block _ (h.maps s).lt),fun s x=>dX (h.rows s x) hb,h.apart,h.lrel,h.lmap,h.ne1,h.ne2,bX h.low hb.size⟩
def updL (L:Bool→Int→List Int) (s:Bool) (x:Int) (l:List Int):Bool→Int→List Int:=fun s' x'=>if s'=s∧x'=x then l else L s' x'
def updF (F:Bool→Int→Value) (s:Bool) (x:Int) (v:Value):Bool→Int→Value:=fun s' x'=>if s'=s∧x'=x then v else F s' x'
theorem xFV {w _w':World} {_base:Nat} {v v':Value} {g:Nat} (h:v'.ownBlock=v.ownBlock∨v'.ownBlock=some w.heap.size) (hg:v'.ownBlock=some g) (hlt:g<w.heap.size):v.ownBlock=some g:=by
 rcases h with h | h
 ·rw [← h];exact hg
 ·rw [h] at hg
  injection hg with hg
  omega
theorem GI.step {w w2 w3:World} {base rel c:Nat} {M:Bool→Nat} {n:Int} {L:Bool→Int→List Int} {F:Bool→Int→Value} (h:GI w base rel M c n L F) (s:Bool) (x:Int) (y:Int) (v':Value)
 (hown:w2.ownsRow base 3 1 v' ((L s x).length+1) ((L s x).map (Value.int .i64) ++ [.int .i64 y])) (hgrow:w.grownBy w2 (F s x).ownBlock) (hloc:v'.ownBlock=(F s x).ownBlock∨v'.ownBlock=some w.heap.size)
 (hmap:OwnV Tryz.prog 3 w3 (M s) (c+1) (mapF (updF F s x v' s)) nilS) (hgrow2:w2.grownBy w3 (some (M s))):
 GI w3 base rel M (c+1) n (updL L s x (L s x ++ [y])) (updF F s x v'):=by
 have hne:∀k,k<base→some k≠(F s x).ownBlock:=fun k hk e=>by
  have:=((h.rows s x).lt k e.symm).1
  omega
 have hk3:∀k,k<w.heap.size→k<base→k≠M s→w3.heap[k]?=w.heap[k]?:=fun k hk hkb hkm=>
  (hgrow2.block k (bN hk hgrow.size) (by simpa using hkm)).trans (hgrow.block k hk (hne k hkb))
 have hlow:=h.low
 refine ⟨?_,?_,?_,?_,h.lrel,h.lmap,h.ne1,h.ne2,bX hlow (bX hgrow.size hgrow2.size)⟩
 ·rw [hk3 rel (by have:=h.lrel;omega) h.lrel (fun e=>h.ne1 s e.symm)]
  exact h.head
 ·intro s'
  by_cases hs:s'=s
  ·subst hs
   exact hmap
  ·have hms:M s'≠M s:=by
    have:=h.ne2
    cases s <;> cases s' <;> simp_all [eq_comm]
   have:mapF (updF F s x v' s')=mapF (F s'):=by
    congr 1
    funext x'
    unfold updF
    rw [aX (fun e=>hs e.1)]
   rw [this]
   exact ((h.maps s').mono (Nat.le_succ c)).block (hk3 _ (h.maps s').lt (h.lmap s') hms)
 ·intro s' x'
  unfold updL updF
  by_cases he:s'=s∧x'=x
  ·rw [aY he,aY he,aZ,cH,bS]
   refine cY hown (fun k hk hk2 _=>?_)
   exact hgrow2.block k hk2 (by have:=h.lmap s;simp;omega)
  ·rw [aX he,aX he]
   refine cY (h.rows s' x') (fun k hk hk2 hkr=>?_)
   refine (hgrow2.block k (bN hk2 hgrow.size) (by have:=h.lmap s;simp;omega)).trans (hgrow.block k hk2 (fun e=>?_))
   exact he (h.apart s' x' s x k hkr.symm e.symm)
 ·intro s1 x1 s2 x2 g h1 h2
  unfold updF at h1 h2
  have key:∀s' x',¬(s'=s∧x'=x)→v'.ownBlock=some g→(F s' x').ownBlock=some g→False:=fun s' x' hn hv hf=>by
   have hlt:=((h.rows s' x').lt g hf).2
   exact hn (h.apart s' x' s x g hf (xFV (_w':=w) (_base:=base) hloc hv hlt))
  by_cases e1:s1=s∧x1=x <;> by_cases e2:s2=s∧x2=x
  ·exact ⟨e1.1.trans e2.1.symm,e1.2.trans e2.2.symm⟩
  ·rw [aY e1] at h1
   rw [aX e2] at h2
   exact (key s2 x2 e2 h1 h2).elim
  ·rw [aX e1] at h1
   rw [aY e2] at h2
   exact (key s1 x1 e1 h2 h1).elim
  ·rw [aX e1] at h1
   rw [aX e2] at h2
   exact h.apart s1 x1 s2 x2 g h1 h2
def Rel3 (w:World) (r:Nat) (n:Int) (L:Bool→Int→List Int):Prop:=∃M:Bool→Nat,w.heap[r]?=some (.cells #[.int .i64 n,.map (some (M false)),.map (some (M true))] 244)∧
 (∀s x,0≤x→x≤9223372036854775807→∃A c,(∀W:World,Below w.heap.size w W→(Instr.lookup 242 (.map (some (M s))) (.int .i64 x) false).run Tryz.prog W = .ok (.slice A (L s x).length c) W)∧Slc 1 RInt w A c (L s x))
theorem Rel3.keep {w w':World} {r:Nat} {n:Int} {L:Bool→Int→List Int} (h:Rel3 w r n L) (hb:Below w.heap.size w w'):Rel3 w' r n L:=by
 obtain ⟨M,h1,h2⟩:=h
 refine ⟨M,(hb.block _ (Array.getElem?_eq_some_iff.1 h1).1).trans h1,fun s x h0 h9=>?_⟩
 obtain ⟨A,c,h3,h4⟩:=h2 s x h0 h9
 exact ⟨A,c,fun W hW=>h3 W (hb.trans (hW.mono hb.size)),h4.keep RInt.keeps hb⟩
theorem wW:∀w,(zeroValue 51).run Tryz.prog w = .ok nilS w:=Tryz.zeroValue51
theorem GI.rel3 {w:World} {base rel c:Nat} {M:Bool→Nat} {n:Int} {L:Bool→Int→List Int} {F:Bool→Int→Value} (h:GI w base rel M c n L F):Rel3 w rel n L:=by
 refine ⟨M,h.head,fun s x h0 h9=>?_⟩
 obtain ⟨A,c',hv,hs⟩:=dB (h.rows s x)
 refine ⟨A,c',fun W hW=>?_,hs⟩
 have:=(((h.maps s).block (hW.block _ (h.maps s).lt)).look law3 Tryz.underlying242 (wW W) (key3 h0 h9))
 rw [this]
 show Result.ok (F s x) W=_
 rw [hv]
end
section
open Go Go.RowKit
structure Qat (w:World) (base:Nat) (e:TypeId) (g p n cap:Nat) (cur:Array Value) (xs:List Value):Prop where
 low:base≤g
 heap:w.heap[g]?=some (.cells cur e (0,0))
 len:xs.length=n
 le:n≤cap
 big:cap≤9223372036854775807
 fit:p+cap≤cur.size
 row:(cur.toList.drop p).take n=xs
def Qu (w:World) (base:Nat) (e:TypeId) (v:Value) (xs:List Value):Prop:=
 (v = .slice none 0 0∧xs=[])∨∃g p n cap cur,v = .slice (some ⟨g,p,none⟩) n cap∧Qat w base e g p n cap cur xs
theorem Qat.cell {w:World} {base g p n cap:Nat} {e:TypeId} {cur:Array Value} {xs:List Value} (h:Qat w base e g p n cap cur xs) (j:Nat) (u:Value) (hj:xs[j]?=some u):w.cell? ⟨g,p+j,none⟩=some u:=by
 have hlt:j<n:=by rw [← h.len];exact (List.getElem?_eq_some_iff.1 hj).1
 rw [← h.row,List.getElem?_take,aY hlt,List.getElem?_drop] at hj
 simp only [World.cell?,h.heap]
 simpa using hj
theorem Qu.lt {w:World} {base:Nat} {e:TypeId} {v:Value} {xs:List Value} (h:Qu w base e v xs):∀k,v.ownBlock=some k→base≤k∧k<w.heap.size:=by
 rcases h with ⟨rfl,_⟩ | ⟨g,p,n,cap,cur,rfl,hq⟩
 ·intro k hk;cases hk
 ·intro k hk
  injection hk with hk
  subst hk
  exact ⟨hq.low,(Array.getElem?_eq_some_iff.1 hq.heap).1⟩
theorem Qu.block {w w':World} {base:Nat} {e:TypeId} {v:Value} {xs:List Value} (h:Qu w base e v xs) (hb:∀k,v.ownBlock=some k→w'.heap[k]?=w.heap[k]?):Qu w' base e v xs:=by
 rcases h with ⟨rfl,hx⟩ | ⟨g,p,n,cap,cur,rfl,hq⟩
 ·exact .inl ⟨rfl,hx⟩
 ·exact .inr ⟨g,p,n,cap,cur,rfl,hq.low,(hb g rfl).trans hq.heap,hq.len,hq.le,hq.big,hq.fit,hq.row⟩
theorem Qu.below {w w':World} {base:Nat} {e:TypeId} {v:Value} {xs:List Value} (h:Qu w base e v xs) (hb:Below w.heap.size w w'):Qu w' base e v xs:=
 h.block (fun k hk=>hb.block k (h.lt k hk).2)
theorem Qu.slice {w:World} {base:Nat} {e:TypeId} {v:Value} {xs:List Value} (h:Qu w base e v xs):∃A c,v = .slice A xs.length c∧xs.length≤c∧c≤9223372036854775807:=by
 rcases h with ⟨rfl,rfl⟩ | ⟨g,p,n,cap,cur,rfl,hq⟩
 ·exact ⟨none,0,rfl,by simp,by omega⟩
 ·exact ⟨_,cap,by rw [hq.len],by rw [hq.len];exact hq.le,hq.big⟩
theorem Qu.one (W:World) (base:Nat) (e:TypeId) (x:Value) (k:Nat) (hk:k=W.heap.size) (hb:base≤k):Qu (W.alloc (.cells #[x] e)) base e (.slice (some ⟨k,0,none⟩) 1 1) [x]:=by
 subst hk
 exact .inr ⟨_,0,1,1,#[x],rfl,hb,Array.getElem?_push_size,rfl,by omega,by omega,by simp,by simp⟩
theorem Qu.tail {w:World} {base:Nat} {e:TypeId} {x:Value} {r:List Value} {A:Option Addr} {n c:Nat} (h:Qu w base e (.slice A n c) (x :: r)):
 ∃g p,A=some ⟨g,p,none⟩∧n=r.length+1∧n≤c∧c≤9223372036854775807∧w.cell? ⟨g,p,none⟩=some x∧Qu w base e (.slice (if c=1 then A else A.map (·.add (1 * 1))) (n - 1) (c - 1)) r:=by
 rcases h with ⟨_,h⟩ | ⟨g,p,n',cap,cur,hv,hq⟩
 ·cases h
 ·obtain ⟨rfl,rfl,rfl⟩:A=some ⟨g,p,none⟩∧n=n'∧c=cap:=by simpa using hv
  have hl:=hq.len
  simp only [bJ] at hl
  refine ⟨g,p,rfl,by omega,hq.le,hq.big,by simpa using hq.cell 0 x rfl,?_⟩
  have hle:=hq.le
  have hbig:=hq.big
  have hfit:=hq.fit
  by_cases h1:c=1
  ·rw [aY h1]
   refine .inr ⟨g,p,n - 1,c - 1,cur,rfl,hq.low,hq.heap,by omega,by omega,by omega,by omega,?_⟩
   have hr0:r=[]:=bU (by omega)
   have:n - 1=0:=by omega
   rw [this,List.take_zero,hr0]
  ·rw [aX h1]
   refine .inr ⟨g,p+1,n - 1,c - 1,cur,by simp [Addr.add],hq.low,hq.heap,by omega,by omega,by omega,by omega,?_⟩
   have hr:=hq.row
   rw [← List.drop_drop]
   cases hd:cur.toList.drop p with
   | nil=>rw [hd] at hr;simp at hr
   | cons y t=>
     rw [hd,show n=(n - 1)+1 by omega,List.take_succ_cons] at hr
     have hr2:=(List.cons.inj hr).2
     simpa using hr2
section
variable {P:Program}
theorem iI (w:World) (t ty e:TypeId) (i:TypeInfo) (ht:P.underlying t=some (.slice e)) (hi:P.info? e=some i)
 (g p sLen sCap:Nat) (cur:Array Value) (hg:w.heap[g]?=some (.cells cur e (0,0)))
 (a:Addr) (m c:Nat) (news:List Value) (hl:news.length=m * i.size) (hnews:∀j u,news[j]?=some u→w.cell? (a.add j)=some u) (h1:∀u∈news,u.oneCell'=true)
 (hroom:sLen+m≤sCap) (hfit:p+sLen * i.size+news.length≤cur.size):
 (Builtin.append_ #[t,t] ty #[.slice (some ⟨g,p,none⟩) sLen sCap,.slice (some a) m c]).run P w =
   .ok (.slice (some ⟨g,p,none⟩) (sLen+m) sCap) (w.setRow g (cur.toList.take (p+sLen * i.size) ++ news ++ cur.toList.drop (p+sLen * i.size+news.length)).toArray):=by
 have hf:=run_firstCells_some (P:=P) w i.size m a m c news hl hnews
 have hst:=run_storeCells_at P g (p+sLen * i.size) e news 0 cur w hg (by simpa using hfit) h1
 simp only [Nat.add_zero] at hst
 simp [Builtin.append_,run_underlying ht,sizeOf,typeInfo,hi,Builtin.lenOf,hroom,hf,Addr.add_lit,hst]
theorem Qu.append {w:World} {base:Nat} {t ty e:TypeId} {i:TypeInfo} {z:Value} (ht:P.underlying t=some (.slice e)) (hi:P.info? e=some i) (hz:i.zero=some z) (hsize:i.size=1) (hby:i.bytes≤16) (hzs:z.cells.size=1)
 {v:Value} {xs:List Value} (h:Qu w base e v xs) (a:Addr) (c:Nat) (x:Value) (hx:w.cell? a=some x) (h1:x.oneCell'=true) (hlen:xs.length+1≤1099511627776) (hb:base≤w.heap.size):
 ∃v' w',(Builtin.append_ #[t,t] ty #[v,.slice (some a) 1 c]).run P w = .ok v' w'∧Qu w' base e v' (xs ++ [x])∧w.grownBy w' v.ownBlock:=by
 have hnews:∀j u,[x][j]?=some u→w.cell? (a.add j)=some u:=fun j u hj=>by
  cases j with
  | zero=>
    simp at hj
    subst hj
    simpa [Addr.add] using hx
  | succ j=>simp at hj
 have grown:∀(old:Nat) (row:Option Nat),Qu (w.drew.alloc (.cells (xs.toArray ++ [x].toArray ++ Builtin.zeroCells z.cells (grownCap w (xs.length+1) old e - (xs.length+1))) e)) base e (.slice (some ⟨w.heap.size,0,none⟩) (xs.length+1) (grownCap w (xs.length+1) old e)) (xs ++ [x])∧
  w.grownBy (w.drew.alloc (.cells (xs.toArray ++ [x].toArray ++ Builtin.zeroCells z.cells (grownCap w (xs.length+1) old e - (xs.length+1))) e)) row:=by
  intro old row
  have hge:=grownCap_ge w (xs.length+1) old e
  have hcm:grownCap w (xs.length+1) old e≤maxLen:=grownCap_le_maxLen w (xs.length+1) old e (by unfold maxLen;omega)
  have hs:(xs.toArray ++ [x].toArray ++ Builtin.zeroCells z.cells (grownCap w (xs.length+1) old e - (xs.length+1))).size=grownCap w (xs.length+1) old e:=by
   simp only [Array.size_append,List.size_toArray,size_zeroCells,hzs,cH]
   omega
  refine ⟨.inr ⟨w.heap.size,0,xs.length+1,_,_,rfl,hb,heap_alloc_new w.drew _,by simp,hge,by unfold maxLen at hcm;omega,by rw [hs];omega,?_⟩,⟨rfl,rfl,rfl,by simp,fun k hk _=>heap_alloc_old w.drew _ hk⟩⟩
  simp only [Array.toList_append,bW]
  have:(xs ++ [x]).length=xs.length+1:=by simp
  rw [← this]
  exact List.take_left
 rcases h with ⟨rfl,rfl⟩ | ⟨g,p,n,cap,cur,rfl,hq⟩
 ·have hrun:=run_append_nil (P:=P) w t ty e i z ht hi hz a 1 c [x] (by simp [hsize]) hnews (by omega) (by omega) (by omega)
  refine ⟨_,_,hrun,?_⟩
  have:=grown 0 (Value.slice none 0 0).ownBlock
  simpa using this
 ·have hl:=hq.len
  by_cases hroom:n+1≤cap
  ·have hfit:=hq.fit
   have hrun:=iI (P:=P) w t ty e i ht hi g p n cap cur hq.heap a 1 c [x] (by simp [hsize]) hnews (by simpa using h1) hroom (by rw [hsize];simp;omega)
   rw [hsize,Nat.mul_one] at hrun
   refine ⟨_,_,hrun,.inr ⟨g,p,n+1,cap,(cur.toList.take (p+n) ++ [x] ++ cur.toList.drop (p+n+[x].length)).toArray,rfl,hq.low,?_,by simp [hl],hroom,hq.big,?_,?_⟩,?_⟩
   ·exact setRow_heap w g cur _ e (0,0) hq.heap
   ·simp
    omega
   ·have hA:(cur.toList.take (p+n)).drop p=xs:=by
     rw [← hq.row,List.drop_take,show p+n - p=n by omega]
    have hp:p≤(cur.toList.take (p+n)).length:=by simp;omega
    simp only [cH,bK]
    rw [List.drop_append_of_le_length hp,hA,List.take_append,List.take_of_length_le (by omega),hl,show n+1 - n=1 by omega]
    rfl
   ·exact ⟨rfl,rfl,rfl,by simp,fun k _ hk=>setRow_other w g k _ (fun h=>hk (by rw [h];rfl))⟩
  ·have hby2:(n+1) * i.bytes≤140737488355328:=by
    have h2:(n+1) * i.bytes≤(n+1) * 16:=Nat.mul_le_mul_left _ hby
    omega
   have hold:∀j u,xs[j]?=some u→w.cell? ((⟨g,p,none⟩:Addr).add j)=some u:=fun j u hj=>by rw [Addr.add_lit];exact hq.cell j u hj
   have hfit:=growslice_fits (need:=n+1) (old:=cap) (bytes:=i.bytes) (by omega) hby2
   have h63:((n+1:Nat):Int)≤9223372036854775807:=by omega
   have hg1:cap<n+1:=by omega
   have hlo:xs.length=n * i.size:=by rw [hsize,hl,Nat.mul_one]
   have hln:[x].length=1 * i.size:=by rw [hsize];rfl
   have hrun:=run_append_grow (P:=P) w t ty e i z ht hi hz ⟨g,p,none⟩ n cap xs hlo hold a 1 c [x] hln hnews hg1 h63 hfit
   subst hl
   exact ⟨_,_,hrun,grown cap _⟩
end
theorem lY {P:Program} (w:World) {ops:Array Oper} {rest:List Oper} {o:Oper} {a:Act} {Q:Exit→Act→World→Prop} (hgd:o.guard=none) (s x:Operand) (t:TypeId)
 (ho:o.op = .call { callee:= .builtin .append,args:= #[s,x],argTypes:= #[t,t] }) (base:Nat) (e:TypeId) (i:TypeInfo) (z:Value) (ht:P.underlying t=some (.slice e)) (hi:P.info? e=some i) (hz:i.zero=some z) (hsize:i.size=1) (hby:i.bytes≤16) (hzs:z.cells.size=1)
 (v:Value) (xs:List Value) (hs:a.eval s=v) (h:Qu w base e v xs) (ad:Addr) (c:Nat) (y:Value) (hx:a.eval x = .slice (some ad) 1 c) (hy:w.cell? ad=some y) (h1:y.oneCell'=true) (hlen:xs.length+1≤1099511627776) (hb:base≤w.heap.size)
 (hK:∀v' w',Qu w' base e v' (xs ++ [y])→w.grownBy w' v.ownBlock→wpList P ops Q rest (a.put o.dst v') w'):wpList P ops Q (o :: rest) a w:=by
 refine wpList_plain hgd fun K' hK'=>?_
 obtain ⟨v',w',hrun,h2,h3⟩:=h.append (ty:=o.type) ht hi hz hsize hby hzs ad c y hy h1 hlen hb
 unfold Oper.wp execOp
 simp only [ho,resolve,invoke,builtin,Sem.run_bind,Sem.run_pure,Result.andThen_ok,List.map_toArray,cK,cM,hs,hx,hrun]
 exact hK' _ _ (hK v' w' h2 h3)
end
section
open Go.RowKit Go.Maps Go.WideMaps
def pairL (s t:Int):Lit:= .string (keyBytes [.int .i64 s,.int .i64 t])
theorem qK {s t s' t':Int} (h1:(Lit.int .i64 s).wf=true) (h2:(Lit.int .i64 t).wf=true) (h3:(Lit.int .i64 s').wf=true) (h4:(Lit.int .i64 t').wf=true) (h:pairL s t=pairL s' t'):s=s'∧t=t':=by
 unfold pairL at h
 injection h with h
 have:=keyBytes_inj (l:=[.int .i64 s,.int .i64 t]) (l':=[.int .i64 s',.int .i64 t']) (by simp [Alike,Lit.sameKind]) (by simp [Lit.keyWf,h1,h2]) (by simp [Lit.keyWf,h3,h4]) h
 simp at this
 exact this
def Memo (P:Program) (k:TypeId) (w:World) (b:Nat) (S:Int→Int→Bool) (ks:List (Int × Int)):Prop:=
 ∃D:DataW Value,w.ownsMap P k (fun v=>some (.held v,[])) b ks.length D∧
  (∀s t,(Lit.int .i64 s).wf=true→(Lit.int .i64 t).wf=true→(s,t)∈ks→∀z,D.atKey (pairL s t) z = .held (.bool (S s t)))∧
  (∀s t,(Lit.int .i64 s).wf=true→(Lit.int .i64 t).wf=true→(s,t)∉ks→∀z,D.atKey (pairL s t) z=z)∧
  (∀p∈ks,(Lit.int .i64 p.1).wf=true∧(Lit.int .i64 p.2).wf=true)
section
variable {P:Program} {k:TypeId} {w:World} {b:Nat} {S:Int→Int→Bool} {ks:List (Int × Int)}
theorem Memo.made (w:World) (P:Program) (k:TypeId) (S:Int→Int→Bool):Memo P k (w.alloc (.map #[] 0)) w.heap.size S []:=
 ⟨.map [],World.ownsMap_made w P k _,fun _ _ _ _ h=>absurd h (by simp),fun _ _ _ _ _ _=>rfl,by simp⟩
theorem Memo.lt (h:Memo P k w b S ks):b<w.heap.size:=by
 obtain ⟨D,h1,_⟩:=h
 exact h1.lt
theorem Memo.block {w':World} (h:Memo P k w b S ks) (hb:w'.heap[b]?=w.heap[b]?):Memo P k w' b S ks:=by
 obtain ⟨D,⟨es,clock,h1,h3,h4,h5⟩,h2⟩:=h
 exact ⟨D,⟨es,clock,hb.trans h1,h3,h4,h5⟩,h2⟩
theorem Memo.below {w':World} (h:Memo P k w b S ks) (hb:Below w.heap.size w w'):Memo P k w' b S ks:=h.block (hb.block b h.lt)
theorem Memo.alloc (h:Memo P k w b S ks) (o:Obj):Memo P k (w.alloc o) b S ks:=h.below ((aV _ _).alloc (aW _) _)
theorem Memo.drew (h:Memo P k w b S ks):Memo P k w.drew b S ks:=h
theorem Memo.look {t e:TypeId} (h:Memo P k w b S ks) (A:ArrKey P k e 2) (he:P.underlying e=some (.int .i64)) (hsz:∃m,P.types.size=m+1) {te:TypeId} (ht:P.underlying t=some (.map k te)) (hz:(zeroValue te).run P w = .ok (.bool false) w)
 {x y:Int} (hx:(Lit.int .i64 x).wf=true) (hy:(Lit.int .i64 y).wf=true):
 (Instr.lookup t (.map (some b)) (.agg #[.int .i64 x,.int .i64 y]) true).run P w = .ok (.tuple #[.bool (if (x,y)∈ks then S x y else false),.bool (decide ((x,y)∈ks))]) w:=by
 obtain ⟨D,h1,h2,h3,h4⟩:=h
 obtain ⟨v,ps,hrun,hv⟩:=h1.look_ok (Keyed.of_law A.law) ht hz rfl (keyOf_pair A he hsz hx hy)
 change _=some (D.atKey (pairL x y) _,ps) at hv
 rw [hrun]
 change Result.ok (Value.tuple #[v,.bool (has D (pairL x y))]) w=_
 by_cases hm:(x,y)∈ks
 ·rw [h2 x y hx hy hm] at hv
  injection hv with hv
  injection hv with hv
  injection hv with hv
  rw [hv,has_true_of_atKey (h2 x y hx hy hm),aY hm]
  simp [hm]
 ·rw [h3 x y hx hy hm] at hv
  injection hv with hv
  injection hv with hv
  injection hv with hv
  rw [hv,has_false_of_atKey (h3 x y hx hy hm),aX hm]
  simp [hm]
theorem Memo.store {t e:TypeId} (h:Memo P k w b S ks) (A:ArrKey P k e 2) (he:P.underlying e=some (.int .i64)) (hsz:∃m,P.types.size=m+1) {te:TypeId} (ht:P.underlying t=some (.map k te)) (hn:ks.length<maxLen)
 {x y:Int} (hx:(Lit.int .i64 x).wf=true) (hy:(Lit.int .i64 y).wf=true):
 ∃w',(Instr.mapUpdate t (.map (some b)) (.agg #[.int .i64 x,.int .i64 y]) (.bool (S x y))).run P w = .ok () w'∧Memo P k w' b S ((x,y) :: ks)∧w.grownBy w' (some b):=by
 obtain ⟨D,h1,h2,h3,h4⟩:=h
 obtain ⟨w',hrun,g1,g2⟩:=h1.update (Keyed.of_law A.law) ht hn (keyOf_pair A he hsz hx hy) (d:= .held (.bool (S x y))) rfl
 have hkl:WideAt.IsKeyLit (pairL x y):=trivial
 refine ⟨w',hrun,⟨_,g1,?_,?_,?_⟩,g2⟩
 ·intro s t hs ht hm z
  by_cases hp:pairL s t=pairL x y
  ·obtain ⟨rfl,rfl⟩:=qK hs ht hx hy hp
   exact atKey_put_same h1.isMap hkl _ _
  ·have hne:¬(s=x∧t=y):=fun e=>hp (by rw [e.1,e.2])
   refine (atKey_put_other hp _ _).trans (h2 s t hs ht ?_ z)
   rcases List.mem_cons.1 hm with e | hm
   ·injection e with e1 e2
    exact absurd ⟨e1,e2⟩ hne
   ·exact hm
 ·intro s t hs ht hm z
  have hp:pairL s t≠pairL x y:=fun e=>hm (by obtain ⟨rfl,rfl⟩:=qK hs ht hx hy e;simp)
  exact (atKey_put_other hp _ _).trans (h3 s t hs ht (fun h=>hm (List.mem_cons_of_mem _ h)) z)
 ·intro p hp
  rcases List.mem_cons.1 hp with rfl | hp
  ·exact ⟨hx,hy⟩
  ·exact h4 p hp
end
theorem fU {P:Program} (w:World) {ops:Array Oper} {rest:List Oper} {o:Oper} {a:Act} {Q:Exit→Act→World→Prop}
 (hg:o.guard=none) (m x:Operand) (t:TypeId) (hop:o.op=Op.lookup t m x true)
 (k e te:TypeId) (A:ArrKey P k e 2) (he:P.underlying e=some (.int .i64)) (hsz:∃m,P.types.size=m+1) (ht:P.underlying t=some (.map k te)) (hz:(zeroValue te).run P w = .ok (.bool false) w) (b:Nat) (S:Int→Int→Bool) (ks:List (Int × Int))
 (hm:a.eval m = .map (some b)) (hown:Memo P k w b S ks) (s u:Int) (hx:a.eval x = .agg #[.int .i64 s,.int .i64 u]) (h1:(Lit.int .i64 s).wf=true) (h2:(Lit.int .i64 u).wf=true)
 (hK:wpList P ops Q rest (a.put o.dst (.tuple #[.bool (if (s,u)∈ks then S s u else false),.bool (decide ((s,u)∈ks))])) w):
 wpList P ops Q (o :: rest) a w:=by
 refine wpList_plain hg fun K' hK'=>?_
 unfold Oper.wp
 simp [execOp,hop,hm,hx,hown.look A he hsz ht hz h1 h2,Result.andThen]
 simp at hK
 exact hK' _ _ hK
theorem dD {P:Program} (w:World) {ops:Array Oper} {rest:List Oper} {o:Oper} {a:Act} {Q:Exit→Act→World→Prop}
 (hg:o.guard=none) (m x v:Operand) (t:TypeId) (hop:o.op=Op.mapUpdate t m x v)
 (k e te:TypeId) (A:ArrKey P k e 2) (he:P.underlying e=some (.int .i64)) (hsz:∃m,P.types.size=m+1) (ht:P.underlying t=some (.map k te)) (b:Nat) (S:Int→Int→Bool) (ks:List (Int × Int))
 (hm:a.eval m = .map (some b)) (hown:Memo P k w b S ks) (hn:ks.length<maxLen) (s u:Int) (hx:a.eval x = .agg #[.int .i64 s,.int .i64 u]) (h1:(Lit.int .i64 s).wf=true) (h2:(Lit.int .i64 u).wf=true) (hv:a.eval v = .bool (S s u))
 (hK:∀w',Memo P k w' b S ((s,u) :: ks)→w.grownBy w' (some b)→wpList P ops Q rest (a.put o.dst undef) w'):
 wpList P ops Q (o :: rest) a w:=by
 refine wpList_plain hg fun K' hK'=>?_
 obtain ⟨w',hrun,r1,r2⟩:=hown.store A he hsz ht hn h1 h2
 unfold Oper.wp
 simp [execOp,hop,hm,hx,hv,hrun,Result.andThen]
 exact hK' _ _ (hK w' r1 r2)
theorem yQ (n:Nat) (nodupL:∀(n:Nat) (l:List Int),l.Nodup→(∀x∈l,0≤x∧x<n)→l.length≤n) (ks:List (Int × Int)) (h:ks.Nodup) (hr:∀p∈ks,0≤p.1∧p.1<(n:Int)∧0≤p.2∧p.2<(n:Int)):ks.length≤n * n:=by
 have h1:(ks.map (fun p=>p.1 * (n:Int)+p.2)).Nodup:=by
  unfold List.Nodup
  rw [List.pairwise_map]
  refine List.Pairwise.imp_of_mem ?_ h
  intro a b ha hb hne heq
  obtain ⟨a1,a2,a3,a4⟩:=hr a ha
  obtain ⟨b1,b2,b3,b4⟩:=hr b hb
  have e2:a.2=b.2:=by
   have:=congrArg (· % (n:Int)) heq
   simp only [Int.mul_add_emod_self_right] at this
   rwa [Int.emod_eq_of_lt a3 a4,Int.emod_eq_of_lt b3 b4] at this
  have e1:a.1=b.1:=by
   have hn:(n:Int)≠0:=by omega
   have:a.1 * (n:Int)=b.1 * (n:Int):=by rw [e2] at heq;omega
   exact Int.eq_of_mul_eq_mul_right hn this
  exact hne (by cases a;cases b;simp_all)
 have:=nodupL (n * n) _ h1 (fun x hx=>by
  obtain ⟨p,hp,rfl⟩:=List.mem_map.1 hx
  obtain ⟨a1,a2,a3,a4⟩:=hr p hp
  have g1:0≤p.1 * (n:Int):=Int.mul_nonneg a1 (by omega)
  have g2:p.1 * (n:Int)≤((n:Int) - 1) * (n:Int):=Int.mul_le_mul_of_nonneg_right (by omega) (by omega)
  have g3:((n:Int) - 1) * (n:Int)=(n:Int) * n - n:=by rw [Int.sub_mul,Int.one_mul]
  refine ⟨by omega,?_⟩
  push_cast
  omega)
 rwa [cF] at this
end
section
open Go Go.RowKit
section
variable {P:Program} {ops:Array Oper} {Q:Exit→Act→World→Prop} {S:World→Prop}
def pairO (ops:Array Oper) (ord ord':List Nat) (k:Nat):Bool:=
 decide (k+1<ops.size) && decide (ord.getD k 0<ops.size) && decide (ord.getD (k+1) 0<ops.size) && decide (ord'.getD k 0=ord.getD (k+1) 0) && decide (ord'.getD (k+1) 0=ord.getD k 0) &&
  decide (Region.ready .any ops (lstO ops.size ord k)=[ord.getD k 0,ord.getD (k+1) 0]) && decide (Region.ready .any ops (lstO ops.size ord (k+1))=[ord.getD (k+1) 0]) && decide (Region.ready .any ops (lstO ops.size ord' (k+1))=[ord.getD k 0]) &&
  decide ((lstO ops.size ord k).setIfInBounds (ord.getD k 0) true=lstO ops.size ord (k+1)) && decide ((lstO ops.size ord k).setIfInBounds (ord.getD (k+1) 0) true=lstO ops.size ord' (k+1)) &&
  decide ((lstO ops.size ord (k+1)).setIfInBounds (ord.getD (k+1) 0) true=lstO ops.size ord (k+2)) && decide ((lstO ops.size ord' (k+1)).setIfInBounds (ord.getD k 0) true=lstO ops.size ord (k+2))
theorem jM {t:Nat} {ord:List Nat} {k:Nat} {a:Act} {w:World} (ord':List Nat) (z:Obj) (hok:pairO ops ord ord' k=true)
 (hi:∀(a:Act) (w:World) (K:Act→World→Prop),K (a.put ((ops[ord.getD k 0]?).getD default).dst (.pointer (some ⟨w.heap.size,0,none⟩))) (w.alloc z)→if Region.wanted ((ops[ord.getD k 0]?).getD default) (yielded ops a.tmps)=true then Oper.wp P ((ops[ord.getD k 0]?).getD default) a w K Q else K (a.put ((ops[ord.getD k 0]?).getD default).dst undef) w)
 (hj:∀(a:Act) (w:World) (K:Act→World→Prop),K (a.put ((ops[ord.getD (k+1) 0]?).getD default).dst (.pointer (some ⟨w.heap.size,0,none⟩))) (w.alloc z)→if Region.wanted ((ops[ord.getD (k+1) 0]?).getD default) (yielded ops a.tmps)=true then Oper.wp P ((ops[ord.getD (k+1) 0]?).getD default) a w K Q else K (a.put ((ops[ord.getD (k+1) 0]?).getD default).dst undef) w)
 (hcomm:∀x y,(a.put ((ops[ord.getD (k+1) 0]?).getD default).dst x).put ((ops[ord.getD k 0]?).getD default).dst y=(a.put ((ops[ord.getD k 0]?).getD default).dst y).put ((ops[ord.getD (k+1) 0]?).getD default).dst x)
 (hS1:S (w.alloc z)) (hS2:S ((w.alloc z).alloc z))
 (h:∀ga gb:Nat,(ga=w.heap.size∧gb=w.heap.size+1)∨(ga=w.heap.size+1∧gb=w.heap.size)→wpO P ops Q S t ord (k+2) ((a.put ((ops[ord.getD k 0]?).getD default).dst (.pointer (some ⟨ga,0,none⟩))).put ((ops[ord.getD (k+1) 0]?).getD default).dst (.pointer (some ⟨gb,0,none⟩))) ((w.alloc z).alloc z)):
 wpO P ops Q S t ord k a w:=by
 simp only [pairO,bP,decide_eq_true_eq] at hok
 obtain ⟨⟨⟨⟨⟨⟨⟨⟨⟨⟨⟨h0,h1⟩,h2⟩,-⟩,-⟩,r0⟩,r1⟩,r2⟩,l1⟩,l2⟩,l3⟩,l4⟩:=hok
 have hoi:ops[ord.getD k 0]?=some ((ops[ord.getD k 0]?).getD default):=by rw [Array.getElem?_eq_getElem h1];rfl
 have hoj:ops[ord.getD (k+1) 0]?=some ((ops[ord.getD (k+1) 0]?).getD default):=by rw [Array.getElem?_eq_getElem h2];rfl
 unfold wpO at h ⊢
 rw [show ops.size - k=(ops.size - (k+2))+1+1 by omega]
 refine ⟨fun h=>(by rw [r0] at h;cases h),fun i hmem=>?_⟩
 rw [r0,List.mem_cons,bR] at hmem
 rcases hmem with rfl | rfl
 ·refine wpOp_step hoi (fun K' hK=>hi _ _ K' (hK _ _ ⟨fun _=>hS1,?_⟩))
  rw [l1]
  refine eB r1 hoj (fun K2 hK2=>hj _ _ K2 (hK2 _ _ (fun _=>hS2) ?_))
  rw [l3]
  have:=h w.heap.size (w.heap.size+1) (Or.inl ⟨rfl,rfl⟩)
  rwa [bH]
 ·refine wpOp_step hoj (fun K' hK=>hj _ _ K' (hK _ _ ⟨fun _=>hS1,?_⟩))
  rw [l2]
  refine eB r2 hoi (fun K2 hK2=>hi _ _ K2 (hK2 _ _ (fun _=>hS2) ?_))
  rw [l4,hcomm]
  have:=h (w.heap.size+1) w.heap.size (Or.inr ⟨rfl,rfl⟩)
  rwa [bH]
end
theorem dP {B b:Nat} {w0:World} (hb:B≤b):∀(vs:List Value) (o:Nat) (w:World),Below B w0 w→Below B w0 (w.setCells b o vs)
 | [],_,_,h=>h
 | _ :: vs,o,_,h=>dP hb vs (o+1) _ (h.setCell (by simp;omega) _)
theorem dN (w:World) (cs:Array Value) (t:TypeId) (k n:Nat) (hk:k=w.heap.size) (hn:n≤cs.size):(w.alloc (.cells cs t)).there k 0 n:=fun j hj=>by
 subst hk
 constructor
 ·rw [World.cell?_alloc_at _ _ _ _ (by simp)]
  simp
  omega
 ·have:(w.alloc (.cells cs t)).heap[w.heap.size]?=some (.cells cs t):=Array.getElem?_push_size
  unfold World.frozen?
  simp only [this]
  simp
end
section
open Go Go.RowKit
def insN (s:List UInt8):List (List UInt8)→List (List UInt8)
 | []=>[s]
 | x :: r=>if s<x then s :: x :: r else if s=x then x :: r else x :: insN s r
def tabN:List (List UInt8)→List (List UInt8)→List (List UInt8)
 | acc,[]=>acc
 | acc,s :: r=>tabN (insN s acc) r
theorem iD (a:List UInt8):¬a<a:=List.lt_irrefl a
theorem lt_trans' {a b c:List UInt8} (h:a<b) (h2:b<c):a<c:=List.lt_trans h h2
theorem lt_tri (a b:List UInt8):a<b∨a=b∨b<a:=by
 by_cases h:a<b
 ·exact .inl h
 ·by_cases h2:b<a
  ·exact .inr (.inr h2)
  ·exact .inr (.inl (List.le_antisymm (List.not_lt.1 h2) (List.not_lt.1 h)))
theorem kQ:∀{l m:List (List UInt8)},l.Pairwise (· < ·)→m.Pairwise (· < ·)→(∀x,x∈l↔x∈m)→l=m
 | [],[],_,_,_=>rfl
 | [],b :: m,_,_,h=>absurd ((h b).2 (by simp)) (by simp)
 | a :: l,[],_,_,h=>absurd ((h a).1 (by simp)) (by simp)
 | a :: l,b :: m,hl,hm,h=>by
   obtain ⟨hl1,hl2⟩:=List.pairwise_cons.1 hl
   obtain ⟨hm1,hm2⟩:=List.pairwise_cons.1 hm
   have hab:a=b:=by
    rcases List.mem_cons.1 ((h a).1 (by simp)) with e | e
    ·exact e
    ·rcases List.mem_cons.1 ((h b).2 (by simp)) with e2 | e2
     ·exact e2.symm
     ·exact absurd (lt_trans' (hm1 a e) (hl1 b e2)) (iD _)
   subst hab
   rw [kQ hl2 hm2 (fun x=>?_)]
   constructor
   ·intro hx
    rcases List.mem_cons.1 ((h x).1 (by simp [hx])) with e | e
    ·exact absurd (e ▸ hl1 x hx) (iD _)
    ·exact e
   ·intro hx
    rcases List.mem_cons.1 ((h x).2 (by simp [hx])) with e | e
    ·exact absurd (e ▸ hm1 x hx) (iD _)
    ·exact e
theorem insN_mem (s x:List UInt8):∀l,x∈insN s l↔x=s∨x∈l
 | []=>by simp [insN]
 | y :: r=>by
   unfold insN
   split
   ·simp
   ·split
    ·rename_i h
     subst h
     simp
    ·simp only [List.mem_cons,insN_mem s x r]
     constructor
     ·rintro (h | h | h) <;> simp [h]
     ·rintro (h | h | h) <;> simp [h]
theorem lK (s:List UInt8):∀{l},l.Pairwise (· < ·)→(insN s l).Pairwise (· < ·)
 | [],_=>by simp [insN]
 | y :: r,h=>by
   obtain ⟨h1,h2⟩:=List.pairwise_cons.1 h
   unfold insN
   split
   ·rename_i hs
    refine List.pairwise_cons.2 ⟨fun x hx=>?_,h⟩
    rcases List.mem_cons.1 hx with e | e
    ·exact e ▸ hs
    ·exact lt_trans' hs (h1 x e)
   ·rename_i hs
    split
    ·exact h
    ·rename_i hne
     refine List.pairwise_cons.2 ⟨fun x hx=>?_,lK s h2⟩
     rcases (insN_mem s x r).1 hx with e | e
     ·subst e
      rcases lt_tri x y with e | e | e
      ·exact absurd e hs
      ·exact absurd e hne
      ·exact e
     ·exact h1 x e
theorem tE (x:List UInt8):∀(l acc:List (List UInt8)),x∈tabN acc l↔x∈acc∨x∈l
 | [],acc=>by simp [tabN]
 | s :: r,acc=>by
   rw [tabN,tE x r,insN_mem]
   simp only [List.mem_cons]
   constructor
   ·rintro ((h | h) | h) <;> simp [h]
   ·rintro (h | h | h) <;> simp [h]
theorem iG:∀(l:List (List UInt8)) {acc},acc.Pairwise (· < ·)→(tabN acc l).Pairwise (· < ·)
 | [],_,h=>h
 | s :: r,_,h=>iG r (lK s h)
open Go.Lib
theorem sU (x:List UInt8) (zs:List (List UInt8)):x∈compact zs↔x∈zs:=by
 have key:∀m,m≤zs.length→(x∈compactUpTo zs.toArray m↔x∈zs.take m):=by
  intro m
  induction m with
  | zero=>intro _;simp [compactUpTo]
  | succ m ih=>
    intro hm
    have hlt:m<zs.length:=by omega
    have hg:zs.toArray[m]! = zs[m]:=by simp [getElem!_pos,hlt]
    rw [compactUpTo_succ,List.mem_append,ih (by omega),bE hlt,List.mem_append,bR]
    by_cases hk:keeps zs.toArray m=true
    ·rw [aY hk,hg,bR]
    ·rw [aX hk]
     constructor
     ·rintro (h | h)
      ·exact .inl h
      ·simp at h
     ·rintro (h | h)
      ·exact .inl h
      ·left
       have hm0:0<m:=by
        rcases Nat.eq_zero_or_pos m with e | e
        ·subst e
         exact absurd (keeps_lt_one zs.toArray 0 (by omega)) hk
        ·exact e
       have he:zs.toArray[m]! = zs.toArray[m - 1]! := by
        by_cases e:zs.toArray[m]! = zs.toArray[m - 1]!
        ·exact e
        ·exact absurd (keeps_pos e) hk
       have hlt2:m - 1<zs.length:=by omega
       have hg2:zs.toArray[m - 1]! = zs[m - 1]:=by simp [getElem!_pos,hlt2]
       rw [h,← hg,he,hg2]
       exact List.mem_take_iff_getElem.2 ⟨m - 1,by omega,rfl⟩
 have:=key zs.length (aW _)
 rwa [bZ] at this
theorem lZ (zs:List (List UInt8)) (h:zs.Pairwise (fun a b=>a≤b)):(compact zs).Pairwise (· < ·):=by
 have key:∀m,m≤zs.length→(compactUpTo zs.toArray m).Pairwise (· < ·)∧(∀x∈compactUpTo zs.toArray m,x∈zs.take m):=by
  intro m
  induction m with
  | zero=>intro _;simp [compactUpTo]
  | succ m ih=>
    intro hm
    obtain ⟨ih1,ih2⟩:=ih (by omega)
    have hlt:m<zs.length:=by omega
    have hg:zs.toArray[m]! = zs[m]:=by simp [getElem!_pos,hlt]
    rw [compactUpTo_succ]
    by_cases hk:keeps zs.toArray m=true
    ·rw [aY hk,hg]
     refine ⟨List.pairwise_append.2 ⟨ih1,by simp,fun a ha b hb=>?_⟩,fun x hx=>?_⟩
     ·rw [bR] at hb
      subst hb
      obtain ⟨i,hi,rfl⟩:=List.mem_take_iff_getElem.1 (ih2 a ha)
      have hi':i<m:=by omega
      have hm0:0<m:=by omega
      have hlt2:m - 1<zs.length:=by omega
      have hg2:zs.toArray[m - 1]! = zs[m - 1]:=by simp [getElem!_pos,hlt2]
      have hne:zs[m]≠zs[m - 1]:=by
       intro e
       rw [keeps_neg hm0 (by rw [hg,hg2,e])] at hk
       cases hk
      have hle:zs[m - 1]<zs[m]:=by
       have:=List.pairwise_iff_getElem.1 h (m - 1) m hlt2 hlt (by omega)
       rcases lt_tri zs[m - 1] zs[m] with e | e | e
       ·exact e
       ·exact absurd e.symm hne
       ·exact absurd e (List.not_lt.2 this)
      rcases Nat.lt_or_ge i (m - 1) with e | e
      ·have:=List.pairwise_iff_getElem.1 h i (m - 1) (by omega) hlt2 e
       rcases lt_tri zs[i] zs[m - 1] with f | f | f
       ·exact lt_trans' f hle
       ·rw [f];exact hle
       ·exact absurd f (List.not_lt.2 this)
      ·have:i=m - 1:=by omega
       subst this
       exact hle
     ·rcases List.mem_append.1 hx with e | e
      ·have:=ih2 x e
       rw [bE hlt]
       exact List.mem_append.2 (.inl this)
      ·rw [bR] at e
       subst e
       rw [bE hlt]
       exact List.mem_append.2 (.inr (by simp))
    ·rw [aX hk,List.append_nil]
     refine ⟨ih1,fun x hx=>?_⟩
     rw [bE hlt]
     exact List.mem_append.2 (.inl (ih2 x hx))
 exact (key zs.length (aW _)).1
theorem xBL (l:List (List UInt8)):compact (l.mergeSort (fun x y=>decide (x≤y)))=tabN [] l:=by
 refine kQ (lZ _ ?_) (iG l List.Pairwise.nil) (fun x=>?_)
 ·have:=List.pairwise_mergeSort (le:=fun x y:List UInt8=>decide (x≤y)) (fun a b c h1 h2=>by simp only [decide_eq_true_eq] at *;exact List.le_trans h1 h2) (fun a b=>by simp only [Bool.or_eq_true,decide_eq_true_eq];exact List.le_total a b) l
  exact this.imp (fun h=>by simpa using h)
 ·rw [sU,tE,List.mem_mergeSort]
  simp
end
section
open Go Go.RowKit
def bl (s:ByteArray):List UInt8:=s.data.toList
def ba (l:List UInt8):ByteArray:=⟨l.toArray⟩
theorem ba_bl (s:ByteArray):ba (bl s)=s:=rD (by simp [ba,bl])
theorem xAP (l:List ByteArray):(l.map bl).map ba=l:=by
 rw [List.map_map]
 conv=>rhs;rw [← List.map_id l]
 exact List.map_congr_left (fun x _=>ba_bl x)
theorem xEK {s t:ByteArray} (h:bl s=bl t):s=t:=rD h
def insB (s:ByteArray):List ByteArray→List ByteArray
 | []=>[s]
 | x :: r=>if bl s<bl x then s :: x :: r else if s=x then x :: r else x :: insB s r
def tabB:List ByteArray→List ByteArray→List ByteArray
 | acc,[]=>acc
 | acc,s :: r=>tabB (insB s acc) r
theorem zC (s:ByteArray):∀l,(insB s l).map bl=insN (bl s) (l.map bl)
 | []=>rfl
 | x :: r=>by
   unfold insB
   rw [cK,insN]
   by_cases h:bl s<bl x
   ·rw [aY h,aY h];rfl
   ·rw [aX h,aX h]
    by_cases h2:s=x
    ·subst h2
     rw [aY rfl,aY rfl];rfl
    ·rw [aX h2,aX (fun e=>h2 (xEK e)),cK,zC s r]
theorem rI:∀(l acc:List ByteArray),(tabB acc l).map bl=tabN (acc.map bl) (l.map bl)
 | [],acc=>rfl
 | s :: r,acc=>by rw [tabB,rI r,zC];rfl
theorem xL (l:List ByteArray):tabB [] l=(Lib.compact ((l.map bl).mergeSort (fun x y=>decide (x≤y)))).map ba:=by
 rw [xBL,← xAP (tabB [] l),rI];rfl
theorem kP (l:List ByteArray):(tabB [] l).Pairwise (fun a b=>bl a<bl b):=by
 have h:=iG (l.map bl) (acc:=[]) List.Pairwise.nil
 rw [show ([]:List (List UInt8))=([]:List ByteArray).map bl from rfl,← rI] at h
 exact List.pairwise_map.1 h
theorem oO (s:ByteArray):∀l,(insB s l).length≤l.length+1
 | []=>by simp [insB]
 | x :: r=>by
   unfold insB
   split
   ·simp
   ·split
    ·simp
    ·have:=oO s r
     simp only [bJ];omega
theorem tF:∀(l acc:List ByteArray),(tabB acc l).length≤acc.length+l.length
 | [],acc=>by simp [tabB]
 | s :: r,acc=>by
   have:=tF r (insB s acc)
   have:=oO s acc
   rw [tabB]
   simp only [bJ];omega
theorem xCO (h g t:Nat) (T:Option Addr) (c:Nat) (tbl:List ByteArray) (s:Rs) (w:World) (H:DTab w h g t T c tbl) (hr:PRd w g s) (he:(byteS s).2.err=0) (htag:(byteS s).1=3):Calls Tryz.prog 47 #[.pointer (some ⟨h,0,none⟩)] w (gK g w (typeS s)):=by
 have HQ:Hid (typeS s=(⟨3,false,(numS (byteS s).2).1,(numS (numS (byteS s).2).2).1,[]⟩,(numS (numS (byteS s).2).2).2)):=aF (by
  unfold typeS
  rw [aY he,aY (by omega),htag]
  rfl)
 have hgl:=hr.lt;obtain ⟨W,hW⟩:∃W,w.alloc (.cells #[.int .i64 0,.bool false,.int .i64 0,.int .i64 0,.slice none 0 0] 83)=W:=⟨_,rfl⟩;have hb:Below w.heap.size w W:=(by rw [← hW];exact (aV _ _).alloc (aW _) _);have hk:W.heap[w.heap.size]?=some (.cells #[.int .i64 0,.bool false,.int .i64 0,.int .i64 0,.slice none 0 0] 83 (0,0)):=(by rw [← hW];exact heap_alloc_new w _);have HB:=aF (gQ g s W (hr.keep hb));have y0:=(H.keep hb).c0;have HH:=aF (H.keep hb);have HK:=aF hk;have HW:=aF hb;clear hr hk hb H
 have HN1:=aF (fun w1 (hr:PRd w1 g (byteS s).2) (hb:But g W w1)=>eZ h g t T c tbl _ w1 (HH.out.but hb) hr)
 have HN2:=aF (fun w1 (hr:PRd w1 g (numS (byteS s).2).2) (hb:But g W w1)=>eZ h g t T c tbl _ w1 (HH.out.but hb) hr)
 generalize typeS s=Q at *
 generalize (numS (numS (byteS s).2).2).1=el at *
 generalize (numS (numS (byteS s).2).2).2=s3 at *
 generalize numS (byteS s).2=R2 at *
 obtain ⟨rg,s2⟩:=R2
 generalize byteS s=R at *
 obtain ⟨b,s1⟩:=R
 simp only at HB HQ HN1 HN2 he htag
 subst htag
 have hwW:=HW.out.size
 go_enter Tryz.func47,Tryz.ntmps47
 go_wp2_with (go_at_call 90;refine HB.out.mono ?_;rintro e' w1 ⟨rfl,hr1,hb1⟩;have y1:=(HH.out.but hb1).c0;have hk1:=hb1.blk HK.out (by omega);obtain ⟨v0,v1,v2,v3,v4,v5⟩:=blk5 hk1;have v5a:=v5 0;have v5b:=v5 1;have v5c:=v5 2;have v5d:=v5 3;have v5e:=v5 4;have HR1:=aF hr1;have HB1:=aF hb1;have HK1:=aF hk1;clear hr1 hb1 hk1 v5)
 go_at_call 50
 refine (HN1.out w1 HR1.out HB1.out).mono ?_
 rintro e' w2 ⟨rfl,hr2,hb2⟩
 have hb2:=HB1.out.trans hb2
 have hs2:=hb2.size
 obtain ⟨A2,hA2⟩:∃A2,w2.alloc (.cells #[.int .i64 0,.bool false,.int .i64 0,.int .i64 0,.slice none 0 0] 83)=A2:=⟨_,rfl⟩
 have hbA:Below w2.heap.size w2 A2:=by rw [← hA2];exact (aV _ _).alloc (aW _) _
 have hkA:A2.heap[w2.heap.size]?=some (.cells #[.int .i64 0,.bool false,.int .i64 0,.int .i64 0,.slice none 0 0] 83 (0,0)):=by rw [← hA2];exact heap_alloc_new w2 _
 obtain ⟨W3,hW3⟩:∃W3,set5 A2 w2.heap.size (.int .i64 3) (.bool false) (.int .i64 rg) (.int .i64 0) (.slice none 0 0)=W3:=⟨_,rfl⟩
 have hk3:W3.heap[w2.heap.size]?=some (.cells #[.int .i64 3,.bool false,.int .i64 rg,.int .i64 0,.slice none 0 0] 83 (0,0)):=by rw [← hW3];exact oZ _ _ _ _ _ hkA
 have hb3:But g W W3:=by rw [← hW3];exact nH _ _ _ _ _ (hb2.trans (But.of_below hbA)) hs2
 have hr3:PRd W3 g s2:=by rw [← hW3];exact nG _ _ _ _ _ (hr2.keep hbA) (by omega)
 have y2:=(HH.out.but hb2).c0
 have y3:=(HH.out.but hb3).c0
 obtain ⟨a0,a1,a2,a3,a4,a5⟩:=blk5 hkA
 have a5a:=a5 0
 have a5b:=a5 1
 have a5c:=a5 2
 have a5d:=a5 3
 have a5e:=a5 4
 have HR3:=aF hr3
 have HB3:=aF hb3
 have HK3:=aF hk3
 unfold set5 at hW3
 clear hr2 hb2 hbA hkA hr3 hb3 hk3 a5
 go_wp2_with fail
 go_at_call 50
 refine (HN2.out W3 HR3.out HB3.out).mono ?_
 rintro e' w4 ⟨rfl,hr4,hb4⟩
 have hk4:=hb4.blk HK3.out (by omega)
 have hb4:=HB3.out.trans hb4
 have hk0:=hb4.blk HK.out (by omega)
 obtain ⟨c0,c1,c2,c3,c4,c5⟩:=blk5 hk4
 obtain ⟨d0,d1,d2,d3,d4,d5⟩:=blk5 hk0
 have c5d:=c5 3
 have d5a:=d5 0
 have d5b:=d5 1
 have d5c:=d5 2
 have d5d:=d5 3
 have d5e:=d5 4
 have HR4:=aF hr4
 have HB4:=aF hb4
 have HK4:=aF hk4
 have HK0:=aF hk0
 have hne:w2.heap.size≠w.heap.size:=by
  have:=(Array.getElem?_eq_some_iff.1 HK.out).1
  omega
 have hne':=hne.symm
 clear hr4 hb4 hk4 hk0 c5 d5 hW3 hA2 a0 a1 a2 a3 a4 a5a a5b a5c a5d a5e v0 v1 v2 v3 v4 v5a v5b v5c v5d v5e
 go_wp2_with fail
 have hkk:=cZ (p:=⟨w2.heap.size,3,none⟩) (.int .i64 el) HK0.out hne'
 refine iR (Q:=Q) ⟨⟨3,false,rg,el,[]⟩,none,0⟩ hkk HW.out (eO HB4.out hs2 3 (.int .i64 el)) (by rw [HQ.out];exact HR4.out.low (by simp) (fun j hj=>bG _ _ _ j (by simp;omega))) hgl rfl (fun W5 n=>?_) (fun _=>⟨by rw [HQ.out],World.ownsRow_nil _ _ _ _⟩)
 obtain ⟨u0,u1,u2,u3,u4,_⟩:=blk5 n
 simp [results,Tryz.results47,go_sem,u0,u1,u2,u3,u4] <;> rfl
theorem xCM (h g t:Nat) (T:Option Addr) (c:Nat) (tbl:List ByteArray) (s:Rs) (w:World) (H:DTab w h g t T c tbl) (hr:PRd w g s) (he:(byteS s).2.err=0) (htag:(byteS s).1=5):Calls Tryz.prog 47 #[.pointer (some ⟨h,0,none⟩)] w (gK g w (typeS s)):=by
 have HQ:Hid (typeS s=(⟨3,true,(numS (byteS s).2).1,(numS (numS (byteS s).2).2).1,[]⟩,(numS (numS (byteS s).2).2).2)):=aF (by
  unfold typeS
  rw [aY he,aY (by omega),htag]
  rfl)
 have hgl:=hr.lt;obtain ⟨W,hW⟩:∃W,w.alloc (.cells #[.int .i64 0,.bool false,.int .i64 0,.int .i64 0,.slice none 0 0] 83)=W:=⟨_,rfl⟩;have hb:Below w.heap.size w W:=(by rw [← hW];exact (aV _ _).alloc (aW _) _);have hk:W.heap[w.heap.size]?=some (.cells #[.int .i64 0,.bool false,.int .i64 0,.int .i64 0,.slice none 0 0] 83 (0,0)):=(by rw [← hW];exact heap_alloc_new w _);have HB:=aF (gQ g s W (hr.keep hb));have y0:=(H.keep hb).c0;have HH:=aF (H.keep hb);have HK:=aF hk;have HW:=aF hb;clear hr hk hb H
 have HN1:=aF (fun w1 (hr:PRd w1 g (byteS s).2) (hb:But g W w1)=>eZ h g t T c tbl _ w1 (HH.out.but hb) hr)
 have HN2:=aF (fun w1 (hr:PRd w1 g (numS (byteS s).2).2) (hb:But g W w1)=>eZ h g t T c tbl _ w1 (HH.out.but hb) hr)
 generalize typeS s=Q at *
 generalize (numS (numS (byteS s).2).2).1=el at *
 generalize (numS (numS (byteS s).2).2).2=s3 at *
 generalize numS (byteS s).2=R2 at *
 obtain ⟨rg,s2⟩:=R2
 generalize byteS s=R at *
 obtain ⟨b,s1⟩:=R
 simp only at HB HQ HN1 HN2 he htag
 subst htag
 have hwW:=HW.out.size
 go_enter Tryz.func47,Tryz.ntmps47
 go_wp2_with (go_at_call 90;refine HB.out.mono ?_;rintro e' w1 ⟨rfl,hr1,hb1⟩;have y1:=(HH.out.but hb1).c0;have hk1:=hb1.blk HK.out (by omega);obtain ⟨v0,v1,v2,v3,v4,v5⟩:=blk5 hk1;have v5a:=v5 0;have v5b:=v5 1;have v5c:=v5 2;have v5d:=v5 3;have v5e:=v5 4;have HR1:=aF hr1;have HB1:=aF hb1;have HK1:=aF hk1;clear hr1 hb1 hk1 v5)
 go_at_call 50
 refine (HN1.out w1 HR1.out HB1.out).mono ?_
 rintro e' w2 ⟨rfl,hr2,hb2⟩
 have hb2:=HB1.out.trans hb2
 have hs2:=hb2.size
 obtain ⟨A2,hA2⟩:∃A2,w2.alloc (.cells #[.int .i64 0,.bool false,.int .i64 0,.int .i64 0,.slice none 0 0] 83)=A2:=⟨_,rfl⟩
 have hbA:Below w2.heap.size w2 A2:=by rw [← hA2];exact (aV _ _).alloc (aW _) _
 have hkA:A2.heap[w2.heap.size]?=some (.cells #[.int .i64 0,.bool false,.int .i64 0,.int .i64 0,.slice none 0 0] 83 (0,0)):=by rw [← hA2];exact heap_alloc_new w2 _
 obtain ⟨W3,hW3⟩:∃W3,set5 A2 w2.heap.size (.int .i64 3) (.bool true) (.int .i64 rg) (.int .i64 0) (.slice none 0 0)=W3:=⟨_,rfl⟩
 have hk3:W3.heap[w2.heap.size]?=some (.cells #[.int .i64 3,.bool true,.int .i64 rg,.int .i64 0,.slice none 0 0] 83 (0,0)):=by rw [← hW3];exact oZ _ _ _ _ _ hkA
 have hb3:But g W W3:=by rw [← hW3];exact nH _ _ _ _ _ (hb2.trans (But.of_below hbA)) hs2
 have hr3:PRd W3 g s2:=by rw [← hW3];exact nG _ _ _ _ _ (hr2.keep hbA) (by omega)
 have y2:=(HH.out.but hb2).c0
 have y3:=(HH.out.but hb3).c0
 obtain ⟨a0,a1,a2,a3,a4,a5⟩:=blk5 hkA
 have a5a:=a5 0
 have a5b:=a5 1
 have a5c:=a5 2
 have a5d:=a5 3
 have a5e:=a5 4
 have HR3:=aF hr3
 have HB3:=aF hb3
 have HK3:=aF hk3
 unfold set5 at hW3
 clear hr2 hb2 hbA hkA hr3 hb3 hk3 a5
 go_wp2_with fail
 go_at_call 50
 refine (HN2.out W3 HR3.out HB3.out).mono ?_
 rintro e' w4 ⟨rfl,hr4,hb4⟩
 have hk4:=hb4.blk HK3.out (by omega)
 have hb4:=HB3.out.trans hb4
 have hk0:=hb4.blk HK.out (by omega)
 obtain ⟨c0,c1,c2,c3,c4,c5⟩:=blk5 hk4
 obtain ⟨d0,d1,d2,d3,d4,d5⟩:=blk5 hk0
 have c5d:=c5 3
 have d5a:=d5 0
 have d5b:=d5 1
 have d5c:=d5 2
 have d5d:=d5 3
 have d5e:=d5 4
 have HR4:=aF hr4
 have HB4:=aF hb4
 have HK4:=aF hk4
 have HK0:=aF hk0
 have hne:w2.heap.size≠w.heap.size:=by
  have:=(Array.getElem?_eq_some_iff.1 HK.out).1
  omega
 have hne':=hne.symm
 clear hr4 hb4 hk4 hk0 c5 d5 hW3 hA2 a0 a1 a2 a3 a4 a5a a5b a5c a5d a5e v0 v1 v2 v3 v4 v5a v5b v5c v5d v5e
 go_wp2_with fail
 have hkk:=cZ (p:=⟨w2.heap.size,3,none⟩) (.int .i64 el) HK0.out hne'
 refine iR (Q:=Q) ⟨⟨3,true,rg,el,[]⟩,none,0⟩ hkk HW.out (eO HB4.out hs2 3 (.int .i64 el)) (by rw [HQ.out];exact HR4.out.low (by simp) (fun j hj=>bG _ _ _ j (by simp;omega))) hgl rfl (fun W5 n=>?_) (fun _=>⟨by rw [HQ.out],World.ownsRow_nil _ _ _ _⟩)
 obtain ⟨u0,u1,u2,u3,u4,_⟩:=blk5 n
 simp [results,Tryz.results47,go_sem,u0,u1,u2,u3,u4] <;> rfl
theorem xCN (h g t:Nat) (T:Option Addr) (c:Nat) (tbl:List ByteArray) (s:Rs) (w:World) (H:DTab w h g t T c tbl) (hr:PRd w g s) (he:(byteS s).2.err=0) (htag:(byteS s).1=4):Calls Tryz.prog 47 #[.pointer (some ⟨h,0,none⟩)] w (gK g w (typeS s)):=by
 have HQ:Hid (typeS s=(⟨4,false,0,0,(listS numS (byteS s).2).1⟩,(listS numS (byteS s).2).2)):=aF (by
  unfold typeS
  rw [aY he,aX (by omega),aY htag])
 have hgl:=hr.lt;obtain ⟨W,hW⟩:∃W,w.alloc (.cells #[.int .i64 0,.bool false,.int .i64 0,.int .i64 0,.slice none 0 0] 83)=W:=⟨_,rfl⟩;have hb:Below w.heap.size w W:=(by rw [← hW];exact (aV _ _).alloc (aW _) _);have hk:W.heap[w.heap.size]?=some (.cells #[.int .i64 0,.bool false,.int .i64 0,.int .i64 0,.slice none 0 0] 83 (0,0)):=(by rw [← hW];exact heap_alloc_new w _);have HB:=aF (gQ g s W (hr.keep hb));have y0:=(H.keep hb).c0;have HH:=aF (H.keep hb);have HK:=aF hk;have HW:=aF hb;clear hr hk hb H
 have HN1:=aF (fun w1 (hr:PRd w1 g (byteS s).2) (hb:But g W w1)=>vY h g t T c tbl _ w1 (HH.out.but hb) hr)
 generalize typeS s=Q at *
 generalize listS numS (byteS s).2=R2 at *
 obtain ⟨fs,s2⟩:=R2
 generalize byteS s=R at *
 obtain ⟨b,s1⟩:=R
 simp only at HB HQ HN1 he htag
 subst htag
 have hwW:=HW.out.size
 go_enter Tryz.func47,Tryz.ntmps47
 go_wp2_with (go_at_call 90;refine HB.out.mono ?_;rintro e' w1 ⟨rfl,hr1,hb1⟩;have y1:=(HH.out.but hb1).c0;have hk1:=hb1.blk HK.out (by omega);obtain ⟨v0,v1,v2,v3,v4,v5⟩:=blk5 hk1;have v5a:=v5 0;have v5b:=v5 1;have v5c:=v5 2;have v5d:=v5 3;have v5e:=v5 4;have HR1:=aF hr1;have HB1:=aF hb1;have HK1:=aF hk1;clear hr1 hb1 hk1 v5)
 go_at_call 91
 refine (HN1.out w1 HR1.out HB1.out).mono ?_
 rintro e' w2 ⟨A',c',n',rfl,hr2,hb2,hf2⟩
 have hs1:=HB1.out.size
 have hb2:=HB1.out.trans hb2
 have hs2:=hb2.size
 have hk0:=hb2.blk HK.out (by omega)
 obtain ⟨d0,d1,d2,d3,d4,d5⟩:=blk5 hk0
 have d5a:=d5 0
 have d5b:=d5 1
 have d5c:=d5 2
 have d5d:=d5 3
 have d5e:=d5 4
 have HR2:=aF hr2
 have HB2:=aF hb2
 have HK2:=aF hk0
 have HF2:=aF hf2
 clear hr2 hb2 hk0 hf2 d5 v0 v1 v2 v3 v4 v5a v5b v5c v5d v5e
 go_wp2_with fail
 obtain ⟨fs',hfs,hfe⟩:∃fs':List Int,fs'.length=n'∧(s2.err=0→fs'=fs):=by
  by_cases h0:s2.err=0
  ·exact ⟨fs,(HF2.out h0).1,fun _=>rfl⟩
  ·exact ⟨List.replicate n' 0,by simp,fun h1=>absurd h1 h0⟩
 subst hfs
 refine iR (Q:=Q) ⟨⟨4,false,0,0,fs'⟩,A',c'⟩ HK2.out HW.out HB2.out (by rw [HQ.out];exact HR2.out) hgl rfl (fun W5 n=>?_) (fun h0=>?_)
 ·obtain ⟨u0,u1,u2,u3,u4,_⟩:=blk5 n
  simp [results,Tryz.results47,go_sem,u0,u1,u2,u3,u4] <;> rfl
 ·rw [HQ.out] at h0 ⊢
  have h1:=hfe h0
  subst h1
  refine ⟨rfl,?_⟩
  have:=(HF2.out h0).2
  rw [flat1] at this
  exact hO this (by omega)
theorem vR (h g t:Nat) (T:Option Addr) (c:Nat) (tbl:List ByteArray) (s:Rs) (w:World) (H:DTab w h g t T c tbl) (hr:PRd w g s) (he:(byteS s).2.err=0) (htag:5<(byteS s).1):Calls Tryz.prog 47 #[.pointer (some ⟨h,0,none⟩)] w (gK g w (typeS s)):=by
 have HQ:Hid (typeS s=(⟨0,false,0,0,[]⟩,⟨[],14⟩)):=aF (by
  unfold typeS
  rw [aY he,aX (by omega),aX (by omega),aY htag])
 have hb8:(byteS s).1<256:=by
  unfold byteS
  split
  ·split
   ·show 0<256
    omega
   ·exact UInt8.toNat_lt _
  ·show 0<256
   omega
 have hgl:=hr.lt;obtain ⟨W,hW⟩:∃W,w.alloc (.cells #[.int .i64 0,.bool false,.int .i64 0,.int .i64 0,.slice none 0 0] 83)=W:=⟨_,rfl⟩;have hb:Below w.heap.size w W:=(by rw [← hW];exact (aV _ _).alloc (aW _) _);have hk:W.heap[w.heap.size]?=some (.cells #[.int .i64 0,.bool false,.int .i64 0,.int .i64 0,.slice none 0 0] 83 (0,0)):=(by rw [← hW];exact heap_alloc_new w _);have HB:=aF (gQ g s W (hr.keep hb));have y0:=(H.keep hb).c0;have HH:=aF (H.keep hb);have HK:=aF hk;have HW:=aF hb;clear hr hk hb H
 have HN1:=aF (fun w1 (hr:PRd w1 g (byteS s).2)=>qJ g _ 14 (by omega) w1 hr)
 generalize typeS s=Q at *
 generalize byteS s=R at *
 obtain ⟨b,s1⟩:=R
 have HF:Hid (failS 14 s1=⟨[],14⟩):=aF (by unfold failS;rw [aY he])
 simp only at HB HQ HN1 he htag hb8
 have e0:((b:Int) == 0)=false:=beq_false_of_ne (by omega)
 have e1:((b:Int) == 1)=false:=beq_false_of_ne (by omega)
 have e2:((b:Int) == 2)=false:=beq_false_of_ne (by omega)
 have e3:((b:Int) == 3)=false:=beq_false_of_ne (by omega)
 have e4:((b:Int) == 4)=false:=beq_false_of_ne (by omega)
 have e5:((b:Int) == 5)=false:=beq_false_of_ne (by omega)
 have ew:IntKind.i64.wrap (b:Int)=(b:Int):=by rw [IntKind.wrap_i64];omega
 have hwW:=HW.out.size
 go_enter Tryz.func47,Tryz.ntmps47
 go_wp2_with (go_at_call 90;refine HB.out.mono ?_;rintro e' w1 ⟨rfl,hr1,hb1⟩;have y1:=(HH.out.but hb1).c0;have hk1:=hb1.blk HK.out (by omega);obtain ⟨v0,v1,v2,v3,v4,v5⟩:=blk5 hk1;have v5a:=v5 0;have v5b:=v5 1;have v5c:=v5 2;have v5d:=v5 3;have v5e:=v5 4;have HR1:=aF hr1;have HB1:=aF hb1;have HK1:=aF hk1;clear hr1 hb1 hk1 v5)
 go_at_call 87
 refine (HN1.out w1 HR1.out).mono ?_
 rintro e' w2 ⟨rfl,hr2,hb2⟩
 have hb2:=HB1.out.trans hb2
 have hk0:=hb2.blk HK.out (by omega)
 obtain ⟨d0,d1,d2,d3,d4,d5⟩:=blk5 hk0
 have d5a:=d5 0
 have d5b:=d5 1
 have d5c:=d5 2
 have d5d:=d5 3
 have d5e:=d5 4
 have HR2:=aF hr2
 have HB2:=aF hb2
 have HK2:=aF hk0
 clear hr2 hb2 hk0 d5 v0 v1 v2 v3 v4 v5a v5b v5c v5d v5e
 go_wp2_with fail
 refine iR (Q:=Q) ⟨⟨0,false,0,0,[]⟩,none,0⟩ HK2.out HW.out HB2.out (by rw [HQ.out,← HF.out];exact HR2.out) hgl rfl (fun W5 n=>?_) (fun h0=>by rw [HQ.out] at h0;cases h0)
 obtain ⟨u0,u1,u2,u3,u4,_⟩:=blk5 n
 simp [results,Tryz.results47,go_sem,u0,u1,u2,u3,u4] <;> rfl
def Stay {α : Type} (f:Rs→ α × Rs):Prop:=∀s,s.err≠0→(f s).2.err=s.err
theorem pH (most:Nat):Stay (uintS most):=fun s h=>by unfold uintS;rw [aX h]
theorem wT (most:Nat):Stay (countS most):=fun s h=>by unfold countS;rw [aX h]
theorem xAL:Stay byteS:=fun s h=>by unfold byteS;rw [aX h]
theorem kF:Stay numS:=fun s h=>pH _ s h
theorem qP (t:List ByteArray):Stay (nameS t):=fun s h=>by
 have:=pH 65535 s h
 unfold nameS
 rw [aX (by rw [this];exact h)]
 exact this
theorem yR:Stay pairS:=fun s h=>by
 unfold pairS
 have:=kF s h
 rw [kF _ (by rw [this];exact h),this]
theorem wI {α : Type} {f:Rs→ α × Rs} (hf:Stay f):∀n s,s.err≠0→(itemsS f n s).2.err=s.err
 | 0,_,_=>rfl
 | n+1,s,h=>by
   unfold itemsS
   have:=hf s h
   rw [aX (by rw [this];exact h)]
   exact this
theorem jC {α : Type} {f:Rs→ α × Rs} (hf:Stay f):Stay (listS f):=fun s h=>by
 unfold listS
 have:=wT 65535 s h
 rw [wI hf _ _ (by rw [this];exact h),this]
theorem xB:Stay typeS:=fun s h=>by
 unfold typeS
 have:=xAL s h
 rw [aX (by rw [this];exact h)]
 exact this
theorem wF (t:List ByteArray):Stay (localS t):=fun s h=>by
 unfold localS
 have:=qP t s h
 rw [kF _ (by rw [this];exact h),this]
theorem xGF {t:List ByteArray} (hn:t.Nodup):∀(j k:Nat) (s:ByteArray),t[j]?=some s→idxN s k t=((k+j:Nat):Int):=by
 induction t with
 | nil=>intro j k s h;simp at h
 | cons x r ih=>
   intro j k s h
   obtain ⟨h1,h2⟩:=List.nodup_cons.1 hn
   unfold idxN
   cases j with
   | zero=>
     have:x=s:=by simpa using h
     rw [aY this];rfl
   | succ j=>
     have h':r[j]?=some s:=by simpa using h
     have hne:x≠s:=fun e=>h1 (e ▸ List.mem_of_getElem? h')
     rw [aX hne,ih h2 j (k+1) s h']
     congr 1
     omega
end
end Go.Proofs.YtbnljlpefpllcaaGreatDoor
