/-
  Parts of the proof: V10 W15 W16 P9S P9P P9L V62.
-/
import Derived.Test.YtbnljlpefpllcaaGreatDoorME0
import Derived.Test.YtbnljlpefpllcaaGreatDoorME6
import Derived.Test.YtbnljlpefpllcaaGreatDoorME3
import Derived.Test.YtbnljlpefpllcaaGreatDoorME4
namespace Go.Proofs.YtbnljlpefpllcaaGreatDoor
set_option maxRecDepth 100000
set_option maxHeartbeats 16000000
section
open Go Go.RowKit
theorem sO (d:List Int):∀(l:List Int) (a k:Int),depF d a l=some k→a≤k
 | [],a,k,h=>by simp [depF] at h;omega
 | i :: r,a,k,h=>by
   rw [depF] at h
   split at h
   ·cases h
   ·split at h
    ·cases h
    ·have:=sO d r _ k h
     omega
theorem xGM (ds:List Int) (n:Int) (t:Ty) (g base:Nat) (v:Value) (A:Option Addr) (c:Nat) (w:World) (hg:w.heap[g]?=some (.cells #[.int .i64 n,v] 239)) (hown:w.ownsRow base 3 1 v ds.length (ds.map (Value.int .i64))) (hgb:g<base) (hb:base≤w.heap.size) (hl:ds.length≤65535) (ht:Slc 1 RInt w A c t.flds):
 Calls Tryz.prog 173 #[.pointer (some ⟨g,0,none⟩),tyAgg t A c] w fun e' w'=>addP base g v.ownBlock n ds (addE ds n t) w e' w':=by
 by_cases h1:t.kind<0∨4<t.kind
 ·exact xDV ds n t g base v A c w hg hown hgb hb hl ht h1
 by_cases h2:(t.kind≠3∧(t.mu=true∨t.reg≠0∨t.elem≠0))∨(t.kind≠4∧0<t.flds.length)
 ·exact xDW ds n t g base v A c w hg hown hgb hb hl ht (by omega) (by omega) h2
 have hpl:t.kind≠3→t.mu=false∧t.reg=0∧t.elem=0:=fun h=>by
  by_cases hm:t.mu=true
  ·exact absurd (.inl ⟨h,.inl hm⟩) h2
  ·refine ⟨by simpa using hm,?_,?_⟩
   ·exact Decidable.byContradiction fun hr=>h2 (.inl ⟨h,.inr (.inl hr)⟩)
   ·exact Decidable.byContradiction fun hr=>h2 (.inl ⟨h,.inr (.inr hr)⟩)
 have hfl:t.kind≠4→t.flds=[]:=fun h=>by
  rcases Nat.eq_zero_or_pos t.flds.length with h0 | h0
  ·exact bU h0
  ·exact absurd (.inr ⟨h,h0⟩) h2
 by_cases h3:t.kind=3
 ·have hf:=hfl (by omega)
  by_cases hr:t.reg<0∨n≤t.reg
  ·exact xGL ds n t g base v A c w hg hown hgb hb hl ht h3 hf hr
  ·cases hd:depF ds 0 [t.elem] with
   | none=>exact xAW ds n t g base v A c w hg hown hgb hb hl ht h3 hf (by omega) hd
   | some kd=>
     by_cases h32:32≤kd
     ·exact xAY ds n t g base v A c w hg hown hgb hb hl ht h3 hf (by omega) kd hd h32
     ·exact xAX ds n t g base v A c w hg hown hgb hb hl ht h3 hf (by omega) kd hd (sO _ _ _ _ hd) h32
 by_cases h4:t.kind=4
 ·obtain ⟨hm,hr,he⟩:=hpl h3
  cases hd:depF ds 0 t.flds with
  | none=>exact xAT ds n t g base v A c w hg hown hgb hb hl ht h4 hm hr he hd
  | some kd=>
    by_cases hlim:t.flds.length=0∨65535<t.flds.length
    ·exact xDY ds n t g base v A c w hg hown hgb hb hl ht h4 hm hr he kd hd hlim
    ·by_cases h32:32≤kd
     ·exact xAV ds n t g base v A c w hg hown hgb hb hl ht h4 hm hr he kd hd hlim h32
     ·exact xAU ds n t g base v A c w hg hown hgb hb hl ht h4 hm hr he kd hd hlim (sO _ _ _ _ hd) h32
 exact xDX ds n t g base v A c w hg hown hgb hb hl ht ⟨by omega,by omega,hpl,hfl,fun h=>absurd h h3⟩ (by omega)
theorem xDF (w:World) (x y z u v:Value) (t:TypeId):∀i q,[x,y,z,u,v][i]?=some q→(w.alloc (.cells #[x,y,z,u,v] t)).cell? ⟨w.heap.size,i,none⟩=some q:=fun i q hi=>by
 rw [World.cell?_alloc_at _ _ _ _ (by simp)]
 simpa using hi
theorem Stp2.cell {row:Option Nat} {g:Nat} {w w':World} (h:Stp2 row g w w') {k i:Nat} (hk:k<w.heap.size) (hg:k≠g) (hr:some k≠row):w'.cell? ⟨k,i,none⟩=w.cell? ⟨k,i,none⟩:=by
 simp only [World.cell?,h.block k hk hg hr]
theorem rF (n:Int) (prev:List Ty) (d:List Int) (t:Ty) (r:List Ty):typesE n prev d (t :: r)=if (addE d n t).1=0 then (if t∈prev then 21 else typesE n (prev ++ [t]) (d ++ [(addE d n t).2]) r) else (addE d n t).1:=by
 rw [typesE,xEV]
 by_cases h1:(addE d n t).1=0 <;> by_cases h2:t∈prev <;> simp [h1,h2]
theorem uW (ts:List Ty) (n:Int) (A:Option Addr) (c:Nat) (w:World) (hs:Slc 5 RTy w A c ts):
 Calls Tryz.prog 121 #[.slice A ts.length c,.int .i64 n] w fun e' w'=>e' = .returned (.int .i64 (typesC n ts))∧Below w.heap.size w w':=by
 have hle:=hs.le
 have hbig:=hs.big
 unfold typesC
 by_cases h0:65535<ts.length
 ·rw [aY h0]
  clear hs
  go_enter Tryz.func121,Tryz.ntmps121
  go_wp2_with fail
  go_ret
  exact ⟨rfl,aV _ _⟩
 rw [aX h0]
 obtain ⟨R,hR⟩:∃R,typesE n [] [] ts=R:=⟨_,rfl⟩
 rw [hR]
 have HR:=aF hR
 have HS:=aF hs
 clear hR hs
 go_enter Tryz.func121,Tryz.ntmps121
 go_wp2_with fail
 go_loopw [19] (fun i wr=>∃(k:Nat) (ds:List Int) (v:Value),k≤ts.length∧i = .int .i64 k∧Hid (ds.length=k)∧Hid (wr.heap[w.heap.size]?=some (.cells #[.int .i64 n,v] 239))∧Hid (wr.ownsRow (w.heap.size+1) 3 1 v ds.length (ds.map (Value.int .i64)))∧Hid (Below w.heap.size w wr)∧w.heap.size+1≤wr.heap.size∧Hid (R=typesE n (ts.take k) ds (ts.drop k))) (fun i _=>ts.length - (intOf i).toNat)
 case atStart=>
  refine ⟨0,[],.slice none 0 0,by omega,rfl,aF rfl,aF ?_,aF (World.ownsRow_nil _ _ _ _),aF ((aV _ _).alloc (aW _) _),by simp,aF HR.out.symm⟩
  exact Array.getElem?_push_size
 case round=>
  obtain ⟨k,ds,v,hk,rfl,hdl,hg,hown,hB,hsz,hr⟩:=hrel
  by_cases hlt:k<ts.length
  ·have hd:=cU hlt
   obtain ⟨b,o,rfl,hb,hx⟩:=HS.out.sl.at_ hlt
   have htk:Hid (ts.take (k+1)=ts.take k ++ [ts[k]]):=aF (bE hlt)
   obtain ⟨t,ht⟩:∃t,ts[k]=t:=⟨_,rfl⟩
   rw [ht] at hd hx htk
   obtain ⟨r1,r2,r3,r4,A2,c2,r5,r6,r7,r8⟩:=hx
   have HFL:Hid (Slc 1 RInt w A2 c2 t.flds):=aF ⟨r8,r6,r7⟩
   replace r1:=(hB.out.cell (p:=⟨b,o+k * 5,none⟩) hb).trans r1
   replace r2:=(hB.out.cell (p:=⟨b,o+k * 5+1,none⟩) hb).trans r2
   replace r3:=(hB.out.cell (p:=⟨b,o+k * 5+2,none⟩) hb).trans r3
   replace r4:=(hB.out.cell (p:=⟨b,o+k * 5+3,none⟩) hb).trans r4
   replace r5:=(hB.out.cell (p:=⟨b,o+k * 5+4,none⟩) hb).trans r5
   obtain ⟨W1,hW1⟩:∃W1,W1=wr.alloc (.cells #[.int .i64 t.kind,.bool t.mu,.int .i64 t.reg,.int .i64 t.elem,.slice A2 t.flds.length c2] 83):=⟨_,rfl⟩
   have hBW:Below w.heap.size w W1:=by rw [hW1];exact hB.out.alloc (by omega) _
   have hBW0:Below wr.heap.size wr W1:=by rw [hW1];exact (aV _ _).alloc (aW _) _
   have hW1s:W1.heap.size=wr.heap.size+1:=by rw [hW1];simp
   have hgW:W1.heap[w.heap.size]?=some (.cells #[.int .i64 n,v] 239):=(hBW0.block _ (by omega)).trans hg.out
   have hrow:∀j,v.ownBlock=some j→w.heap.size+1≤j∧j<wr.heap.size:=fun j hj=>hown.out.lt j hj
   have HADD:=aF (xGM ds n t w.heap.size (w.heap.size+1) v A2 c2 W1 hgW (dX hown.out hBW0) (by omega) (by omega) (by rw [hdl.out];omega) (HFL.out.keep RInt.keeps hBW))
   have HNEW:Hid (∀i q,[Value.int .i64 t.kind,.bool t.mu,.int .i64 t.reg,.int .i64 t.elem,.slice A2 t.flds.length c2][i]?=some q→W1.cell? ⟨wr.heap.size,i,none⟩=some q):=aF (by rw [hW1];exact xDF wr _ _ _ _ _ _)
   have HROW:=aF hrow
   have HBW:=aF hBW
   have HW1S:=aF hW1s
   have HN:Hid (R=if (addE ds n t).1=0 then (if t∈ts.take k then 21 else typesE n (ts.take k ++ [t]) (ds ++ [(addE ds n t).2]) (ts.drop (k+1))) else (addE ds n t).1):=aF (by rw [hr.out,hd];exact rF _ _ _ _ _)
   have HFIND:=aF (fun W (hb:Below w.heap.size w W)=>zM (ts.take k) t (some ⟨b,o,none⟩) A2 c c2 W ((HS.out.takeN k).keep RTy.keeps hb) (HFL.out.keep RInt.keeps hb))
   rw [cN,Nat.min_eq_left hk] at HFIND
   have hcut:∀W,(Instr.slice 24 (.slice (some ⟨b,o,none⟩) ts.length c) none (some (.int .i64 (k:Int))) none).run Tryz.prog W = .ok (.slice (some ⟨b,o,none⟩) k c) W:=fun W=>by
    have:=nI (P:=Tryz.prog) 24 83 (some ⟨b,o,none⟩) ts.length c k 5 Tryz.underlying24 Tryz.sizeOf83 (by omega) hle W
    simpa [cutA,Addr.add] using this
   generalize addE ds n t=q at HADD HN
   obtain ⟨er,dp⟩:=q
   simp only at HN
   unfold tyAgg at HADD HFIND
   rw [hW1] at HADD
   clear hd hr r8 hgW hrow hBW hBW0 hW1s
   by_cases he:er=0
   ·subst he
    rw [aY rfl] at HN
    have HCUT:=aF hcut
    clear hcut
    go_wp2_with (go_at_call 173;refine HADD.out.mono ?_;rintro e' w2 ⟨rfl,hst,hgd⟩;have HST:=aF hst;have HGD:=aF hgd;clear hst hgd)
    have hst:=HST.out
    rw [← hW1] at hst
    have hB2:Below w.heap.size w w2:=HBW.out.trans (hst.below (aW _) (fun j hj=>by have:=(HROW.out j hj).1;omega) HBW.out.size)
    have hnew:∀i q,[Value.int .i64 t.kind,.bool t.mu,.int .i64 t.reg,.int .i64 t.elem,.slice A2 t.flds.length c2][i]?=some q→w2.cell? ⟨wr.heap.size,i,none⟩=some q:=fun i q hi=>
     (hst.cell (by rw [HW1S.out];omega) (by omega) (fun e=>by have:=(HROW.out _ e.symm).2;omega)).trans (HNEW.out i q hi)
    have y0:=hnew 0 _ rfl
    have y1:=hnew 1 _ rfl
    have y2:=hnew 2 _ rfl
    have y3:=hnew 3 _ rfl
    have y4:=hnew 4 _ rfl
    have hcut:=HCUT.out
    have hsz2:wr.heap.size+1≤w2.heap.size:=by have:=hst.size;rw [HW1S.out] at this;exact this
    have HB2:=aF hB2
    have HFI:=aF (HFIND.out w2.drew hB2.drew)
    obtain ⟨v',hg',hown'⟩:=HGD.out (by simp)
    have HG':=aF hg'
    have HOWN':=aF hown'
    clear hst hnew hB2 hg' hown'
    have hS:w2.drew.cell? ⟨wr.heap.size,0,none⟩=some (.int .i64 t.kind)∧w2.drew.cell? ⟨wr.heap.size,1,none⟩=some (.bool t.mu)∧w2.drew.cell? ⟨wr.heap.size,2,none⟩=some (.int .i64 t.reg)∧w2.drew.cell? ⟨wr.heap.size,3,none⟩=some (.int .i64 t.elem)∧w2.drew.cell? ⟨wr.heap.size,4,none⟩=some (.slice A2 t.flds.length c2):=⟨y0,y1,y2,y3,y4⟩
    refine eT (S:=fun X=>X.cell? ⟨wr.heap.size,0,none⟩=some (.int .i64 t.kind)∧X.cell? ⟨wr.heap.size,1,none⟩=some (.bool t.mu)∧X.cell? ⟨wr.heap.size,2,none⟩=some (.int .i64 t.reg)∧X.cell? ⟨wr.heap.size,3,none⟩=some (.int .i64 t.elem)∧X.cell? ⟨wr.heap.size,4,none⟩=some (.slice A2 t.flds.length c2)) (by kernel_rfl) ?_
    (iterate 4 (refine dR (v:=?_) (by kernel_rfl) (fun _ _ _ h=>h) (Or.inl ⟨by rfl,?_⟩) hS ?_;rotate_left;(next=>(rintro X ⟨s0,s1,s2,s3,s4⟩;(try simp only [aI]);go_simp;rfl));simp only [aI,Act.put,aJ]))
    (refine eJ (by kernel_rfl) (fun K1 hK1=>?_);simp only [aI,Act.put,aJ];rw [aY (by rfl)];go_simp)
    refine HFI.out.mono ?_
    rintro e' w3 ⟨⟨i,rfl⟩,hb3⟩
    replace hS:=(⟨cell_keep hb3 hS.1,cell_keep hb3 hS.2.1,cell_keep hb3 hS.2.2.1,cell_keep hb3 hS.2.2.2.1,cell_keep hb3 hS.2.2.2.2⟩:w3.cell? ⟨wr.heap.size,0,none⟩=some (.int .i64 t.kind)∧w3.cell? ⟨wr.heap.size,1,none⟩=some (.bool t.mu)∧w3.cell? ⟨wr.heap.size,2,none⟩=some (.int .i64 t.reg)∧w3.cell? ⟨wr.heap.size,3,none⟩=some (.int .i64 t.elem)∧w3.cell? ⟨wr.heap.size,4,none⟩=some (.slice A2 t.flds.length c2))
    refine hK1.out _ _ (fun _=>hS) ?_
    (iterate 5 (refine dR (v:=?_) (by kernel_rfl) (fun _ _ _ h=>h) (Or.inl ⟨by rfl,?_⟩) hS ?_;rotate_left;(next=>(rintro X ⟨s0,s1,s2,s3,s4⟩;(try simp only [aI]);go_simp;rfl));simp only [aI,Act.put,aJ]))
    refine fJ rfl ?_
    clear hS
    by_cases hm:t∈ts.take k
    ·have HF:Hid (R=21):=aF (by rw [HN.out,aY hm])
     have hmd:decide (t∈ts.take k)=true:=by simp [hm]
     rw [hmd]
     clear hm hmd HN
     go_wp2_with fail
     go_ret
     exact ⟨by rw [HF.out];rfl,HB2.out.drew.trans (hb3.mono HB2.out.drew.size)⟩
    ·have HF:Hid (R=typesE n (ts.take (k+1)) (ds ++ [dp]) (ts.drop (k+1))):=aF (by rw [HN.out,aX hm,htk.out])
     have hmd:decide (t∈ts.take k)=false:=by simp [hm]
     rw [hmd]
     clear hm hmd HN
     go_wp2_with fail
     go_roundw
     case rel=>
      have hb3':Below w2.heap.size w2 w3:=(aV _ _).drew.trans hb3
      have hl:(ds ++ [dp]).length=k+1:=by rw [aZ,hdl.out];rfl
      exact ⟨k+1,ds ++ [dp],v',by omega,by go_num,aF hl,aF ((hb3'.block _ (by omega)).trans HG'.out),aF (dX HOWN'.out hb3'),aF (HB2.out.drew.trans (hb3.mono HB2.out.drew.size)),bX (by omega) hb3'.size,HF⟩
     case measure=>simp [intOf];omega
   ·rw [aX he] at HN
    have e1:(er != 0)=true:=by simp [he]
    clear hcut
    go_wp2_with (go_at_call 173;refine HADD.out.mono ?_;rintro e' w2 ⟨rfl,hst,hgd⟩;have HST:=aF hst;clear hst hgd)
    go_ret
    refine ⟨by rw [HN.out];rfl,HBW.out.trans ?_⟩
    rw [hW1]
    exact HST.out.below (aW _) (fun j hj=>by have:=(HROW.out j hj).1;omega) (by simp;omega)
  ·have HN:Hid (R=0):=aF (by rw [hr.out,bD (by omega)];rfl)
   clear hr hg hown
   go_wp2_with fail
   go_ret
   exact ⟨by rw [HN.out];rfl,hB.out⟩
end
section
open Go.RowKit Go.Shelf
theorem pS (ts:List Ty) (ls:List Lc) (l:Int) (ps:List Pj) (A B C:Option Addr) (c d e:Nat) (w:World) (hts:Slc 5 RTy w A c ts) (hls:Slc 2 RLc w B d ls) (hps:Slc 2 RPj w C e ps) (hok:Okay ts ls) (hty:(tyOf ts ls l ps).2=0):
 Calls Tryz.prog 190 #[.slice A ts.length c,.slice B ls.length d,.agg #[.int .i64 l,.slice C ps.length e]] w fun e' w'=>∃A' c',e' = .returned (.slice A' (refsOf ts ls l ps).1.length c')∧Slc 5 RTy w' A' c' (refsOf ts ls l ps).1∧Below w.heap.size w w':=by
 have HT:=aF hty
 have HOK:=aF hok
 have HLS:=aF hls
 have HPS:=aF hps
 have HTS:=aF hts
 have hp32:=(lS (fD hty).1).2
 have hple:=hps.le
 have hpbig:=hps.big
 have htle:=hts.le
 have htbig:=hts.big
 have hfin:Hid (refsOf ts ls l (ps.take ps.length)=refsOf ts ls l ps):=aF (by rw [bZ])
 clear hts hls hps hok hty
 obtain ⟨i0,hi,hz0,hz1,hz2⟩:=info_parts zD
 go_enter Tryz.func190,Tryz.ntmps190
 go_wp2
 go_loopw [7,8] (fun v i wr=>∃k:Nat,k≤ps.length∧i = .int .i64 k∧wr.cell? ⟨w.heap.size,0,none⟩=some (.int .i64 l)∧wr.cell? ⟨w.heap.size,1,none⟩=some (.slice C ps.length e)∧Below w.heap.size w wr∧∃ys:List TH,wr.ownsRow (w.heap.size+1) 83 5 v ys.length (ys.flatMap dQ)∧(∀y∈ys,GoodH w y)∧Hid (ys.map (·.t)=(refsOf ts ls l (ps.take k)).1)) (fun _ i _=>ps.length - (intOf i).toNat)
 case atStart=>exact ⟨0,by omega,rfl,by go_simp,by go_simp,(aV _ _).alloc (aW _) _,[],World.ownsRow_nil _ _ _ _,by simp,aF (by rw [List.take_zero,vJ];rfl)⟩
 case round=>
  obtain ⟨k,hk,rfl,y1,y2,hB,ys,hown,hgd,hys⟩:=hrel
  have hwlt:=cD _ _ y1
  by_cases hlt:k<ps.length
  ·obtain ⟨bC,oC,rfl,hbC,hrC⟩:=HPS.out.sl.at_ hlt
   obtain ⟨g1,g2⟩:=RPj.keeps _ _ _ w.heap.size _ _ _ (aW _) hbC hB hrC
   have hsn:Hid ((refsOf ts ls l (ps.take (k+1))).1=(refsOf ts ls l (ps.take k)).1 ++ refT ts (tyOf ts ls l (ps.take k)).1 ps[k]):=aF (by
    have h:=iT HT.out (k+1)
    rw [bE hlt] at h ⊢
    exact rV h)
   have hyl:Hid (ys.length≤33):=aF (by
    have h:=jU ts ls l (ps.take k)
    rw [← hys.out,cF] at h
    exact h)
   by_cases hkd:ps[k].kind=0
   ·have e2:(ps[k].kind == 0)=true:=by simp [hkd]
    have hij:=gO HOK.out (iT HT.out k)
    obtain ⟨j,hj⟩:=bF hij.1
    have hj2:j<ts.length:=by omega
    obtain ⟨bT,oT,rfl,hbT,hrT⟩:=HTS.out.sl.at_ hj2
    have htl:(ps.take k).length=k:=by simp;omega
    have hRec:Hid (∀W,Below w.heap.size w W→Calls Tryz.prog 147 #[.slice (some ⟨bT,oT,none⟩) ts.length c,.slice B ls.length d,.agg #[.int .i64 l,.slice (some ⟨bC,oC,none⟩) k e]] W fun e' w'=>e' = .returned (.tuple #[.int .i64 j,.int .i64 0])∧Below W.heap.size W w'):=aF (fun W hW=>by
     have h:=kT ts ls l k (ps.take k) htl (some ⟨bT,oT,none⟩) B (some ⟨bC,oC,none⟩) c d e W (HTS.out.keep RTy.keeps hW) (HLS.out.keep RLc.keeps hW) ((HPS.out.takeN k).keep RPj.keeps hW) HOK.out
     rw [htl,hj,iT HT.out k] at h
     exact h)
    have hsn2:Hid ((refsOf ts ls l (ps.take (k+1))).1=(refsOf ts ls l (ps.take k)).1 ++ [ts[j]]):=aF (by
     rw [hsn.out,refT,aY hkd,hj,bV,bB hj2]
     rfl)
    generalize ps[k]=x at *
    clear hkd hij hj hrC hsn
    have hwk:IntKind.i64.wrap (k:Int)=(k:Int):=by rw [IntKind.wrap_i64];omega
    go_wp2
    refine gD (S:=fun X=>X.cell? ⟨w.heap.size,0,none⟩=some (.int .i64 l)∧X.cell? ⟨w.heap.size,1,none⟩=some (.slice (some ⟨bC,oC,none⟩) ps.length e)) (t:=15) (by kernel_rfl) ?_
    have hS:wr.drew.cell? ⟨w.heap.size,0,none⟩=some (.int .i64 l)∧wr.drew.cell? ⟨w.heap.size,1,none⟩=some (.slice (some ⟨bC,oC,none⟩) ps.length e):=⟨y1,y2⟩
    refine cX (i:=0) (v:=?tv0) rfl (by kernel_rfl) (by kernel_rfl) (by kernel_rfl) (by kernel_rfl) (fun _ _ _ h=>h) (Or.inl ⟨by rfl,?ty0⟩) hS ?tr0
    case ty0=>
     rintro X ⟨s1,s2⟩
     simp only [aK]
     go_simp
     rfl
    simp only [aK,Act.put,aJ]
    refine cX (i:=1) (v:=?tv1) rfl (by kernel_rfl) (by kernel_rfl) (by kernel_rfl) (by kernel_rfl) (fun _ _ _ h=>h) (Or.inl ⟨by rfl,?ty1⟩) hS ?tr1
    case ty1=>
     rintro X ⟨s1,s2⟩
     simp only [aK]
     go_simp
     rfl
    simp only [aK,Act.put,aJ]
    refine cX (i:=2) (v:=?tv2) rfl (by kernel_rfl) (by kernel_rfl) (by kernel_rfl) (by kernel_rfl) (fun _ _ _ h=>h) (Or.inl ⟨by rfl,?ty2⟩) hS ?tr2
    case ty2=>
     rintro X ⟨s1,s2⟩
     simp only [aK]
     go_simp
     rfl
    simp only [aK,Act.put,aJ]
    refine cX (i:=3) (v:=?tv3) rfl (by kernel_rfl) (by kernel_rfl) (by kernel_rfl) (by kernel_rfl) (fun _ _ _ h=>h) (Or.inl ⟨by rfl,?ty3⟩) hS ?tr3
    case ty3=>
     rintro X ⟨s1,s2⟩
     simp only [aK]
     go_simp
     rfl
    simp only [aK,Act.put,aJ]
    refine cX (i:=4) (v:=?tv4) rfl (by kernel_rfl) (by kernel_rfl) (by kernel_rfl) (by kernel_rfl) (fun _ _ _ h=>h) (Or.inl ⟨by rfl,?ty4⟩) hS ?tr4
    case ty4=>
     rintro X ⟨s1,s2⟩
     simp only [aK]
     go_simp
     rfl
    simp only [aK,Act.put,aJ]
    refine cX (i:=5) (v:=?tv5) rfl (by kernel_rfl) (by kernel_rfl) (by kernel_rfl) (by kernel_rfl) (fun _ _ _ h=>h) (Or.inl ⟨by rfl,?ty5⟩) hS ?tr5
    case ty5=>
     rintro X ⟨s1,s2⟩
     simp only [aK]
     go_simp
     rfl
    simp only [aK,Act.put,aJ]
    refine cX (i:=6) (v:=?tv6) rfl (by kernel_rfl) (by kernel_rfl) (by kernel_rfl) (by kernel_rfl) (fun _ _ _ h=>h) (Or.inl ⟨by rfl,?ty6⟩) hS ?tr6
    case ty6=>
     rintro X ⟨s1,s2⟩
     simp only [aK]
     go_simp
     rfl
    simp only [aK,Act.put,aJ]
    refine cX (i:=7) (v:= .slice (some ⟨bC,oC,none⟩) k e) rfl (by kernel_rfl) (by kernel_rfl) (by kernel_rfl) (by kernel_rfl) (fun _ _ _ h=>h) (Or.inl ⟨by rfl,?ty7⟩) hS ?tr7
    case ty7=>
     rintro X ⟨s1,s2⟩
     simp only [aK]
     go_simp
     (try simp only [hwk]);first | rfl | (intro h;omega) | (rw [aY (by omega)];simp)
    simp only [aK,Act.put,aJ]
    refine cX (i:=8) (v:=?tv8) rfl (by kernel_rfl) (by kernel_rfl) (by kernel_rfl) (by kernel_rfl) (fun _ _ _ h=>h) (Or.inl ⟨by rfl,?ty8⟩) hS ?tr8
    case ty8=>
     rintro X ⟨s1,s2⟩
     simp only [aK]
     go_simp
     rfl
    simp only [aK,Act.put,aJ]
    refine eB (i:=9) (by kernel_rfl) rfl (fun K1 hK1=>?_)
    simp only [aK,Act.put,aJ]
    rw [aY (by rfl)]
    go_simp
    refine (hRec.out _ hB.drew).mono ?_
    rintro e' w2 ⟨rfl,hb2⟩
    have hS2:w2.cell? ⟨w.heap.size,0,none⟩=some (.int .i64 l)∧w2.cell? ⟨w.heap.size,1,none⟩=some (.slice (some ⟨bC,oC,none⟩) ps.length e):=⟨cell_keep hb2 hS.1,cell_keep hb2 hS.2⟩
    refine hK1.out _ _ (fun _=>hS2) ?_
    refine cX (i:=10) (v:=?tv10) rfl (by kernel_rfl) (by kernel_rfl) (by kernel_rfl) (by kernel_rfl) (fun _ _ _ h=>h) (Or.inl ⟨by rfl,?ty10⟩) hS2 ?tr10
    case ty10=>
     rintro X ⟨s1,s2⟩
     simp only [aK]
     go_simp
     rfl
    simp only [aK,Act.put,aJ]
    refine cX (i:=11) (v:=?tv11) rfl (by kernel_rfl) (by kernel_rfl) (by kernel_rfl) (by kernel_rfl) (fun _ _ _ h=>h) (Or.inl ⟨by rfl,?ty11⟩) hS2 ?tr11
    case ty11=>
     rintro X ⟨s1,s2⟩
     simp only [aK]
     go_simp
     rfl
    simp only [aK,Act.put,aJ]
    refine cX (i:=12) (v:=?tv12) rfl (by kernel_rfl) (by kernel_rfl) (by kernel_rfl) (by kernel_rfl) (fun _ _ _ h=>h) (Or.inl ⟨by rfl,?ty12⟩) hS2 ?tr12
    case ty12=>
     rintro X ⟨s1,s2⟩
     simp only [aK]
     go_simp
     rfl
    simp only [aK,Act.put,aJ]
    refine cX (i:=13) (v:=?tv13) rfl (by kernel_rfl) (by kernel_rfl) (by kernel_rfl) (by kernel_rfl) (fun _ _ _ h=>h) (Or.inl ⟨by rfl,?ty13⟩) hS2 ?tr13
    case ty13=>
     rintro X ⟨s1,s2⟩
     simp only [aK]
     go_simp
     rfl
    simp only [aK,Act.put,aJ]
    refine cX (i:=14) (v:=?tv14) rfl (by kernel_rfl) (by kernel_rfl) (by kernel_rfl) (by kernel_rfl) (fun _ _ _ h=>h) (Or.inl ⟨by rfl,?ty14⟩) hS2 ?tr14
    case ty14=>
     rintro X ⟨s1,s2⟩
     simp only [aK]
     go_simp
     rfl
    simp only [aK,Act.put,aJ]
    refine fP (by kernel_rfl) ?_ _
    have hB2:Below w.heap.size w w2:=hB.drew.trans (hb2.mono hB.drew.size)
    have hs2:=hB2.size
    have hwz:w.heap.size+1≤w2.heap.size:=cD _ _ hS2.1
    have hown2:w2.ownsRow (w.heap.size+1) 83 5 u7 ys.length (ys.flatMap dQ):=dX (show wr.drew.ownsRow (w.heap.size+1) 83 5 u7 ys.length (ys.flatMap dQ) from cY hown (fun _ _ _ _=>rfl)) hb2
    obtain ⟨y1',y2'⟩:=hS2
    obtain ⟨r1,r2,r3,r4,A2,c2,r5,r6,r7,r8⟩:=hrT
    have hnewG:Hid (GoodH w ⟨ts[j],A2,c2⟩):=aF ⟨r8,r6,r7⟩
    replace r1:=cell_keep hB2 r1
    replace r2:=cell_keep hB2 r2
    replace r3:=cell_keep hB2 r3
    replace r4:=cell_keep hB2 r4
    replace r5:=cell_keep hB2 r5
    generalize ts[j]=t at *
    have hlt2':bT<w2.heap.size:=by omega
    have hGD:=aF hgd
    have hownA:=hown2.alloc (.cells #[.int .i64 t.kind,.bool t.mu,.int .i64 t.reg,.int .i64 t.elem,.slice A2 t.flds.length c2] 83)
    have hyl2:=hyl.out
    clear hRec hS hb2 hK1 y1 y2 hown hown2 r6 r7 r8 g1 g2 hgd hB
    go_wp2_with (at_builtin;refine wpList_append_own _ rfl _ _ 24 rfl (w.heap.size+1) 83 i0 _ 5 56 Tryz.underlying24 hi hz0 hz1 hz2 rfl (by decide) _ _ _ rfl hownA ⟨w2.heap.size,0,none⟩ 1 1 (dQ ⟨t,A2,c2⟩) rfl rfl ?c1 ?c2 ?c3 ?c4 ?c5 ?_)
    case c1=>
     intro j' u hj'
     rw [add0,cell_of_row _ _ j' _ _ _ (heap_alloc_new w2 _)]
     simpa [dQ] using hj'
    case c2=>simp [dQ,Value.oneCell']
    case c3=>unfold maxLen;omega
    case c4=>omega
    case c5=>simp;omega
    intro v' w3 hown' hgrow _
    have hB3:Below w.heap.size w w3:=(hB2.alloc hs2 _).grown hgrow (by simp;omega) (fun g hg=>by have:=(hownA.lt g hg).1;omega)
    have hb4:Below (w.heap.size+1) w2 w3:=((aV _ _).alloc hwz _).grown hgrow (by simp;omega) (fun g hg=>(hownA.lt g hg).1)
    have y3:=(hb4.cell (p:=⟨w.heap.size,0,none⟩) (by simp)).trans y1'
    have y4:=(hb4.cell (p:=⟨w.heap.size,1,none⟩) (by simp)).trans y2'
    have hown3:Hid (w3.ownsRow (w.heap.size+1) 83 5 v' (ys ++ [TH.mk t A2 c2]).length ((ys ++ [TH.mk t A2 c2]).flatMap dQ)):=aF (by
     rw [aZ,cH,cA,List.flatMap_singleton]
     exact hown')
    clear hown' hgrow hownA hb4 y1' y2' r1 r2 r3 r4 r5 hB2
    go_wp2
    go_roundw
    case rel=>exact ⟨k+1,by omega,by go_num,y3,y4,hB3,ys ++ [⟨t,A2,c2⟩],hown3.out,fun y hy=>(List.mem_append.1 hy).elim (hGD.out y) (fun h=>by rw [bR] at h;rw [h];exact hnewG.out),aF (by rw [bS,hys.out,hsn2.out];rfl)⟩
    case measure=>simp [intOf];omega
   ·have e2:(ps[k].kind == 0)=false:=by simp [hkd]
    have hsn2:Hid ((refsOf ts ls l (ps.take (k+1))).1=(refsOf ts ls l (ps.take k)).1):=aF (by
     rw [hsn.out,refT,aX hkd,List.append_nil])
    have hys2:=aF (hys.out.trans hsn2.out.symm)
    generalize ps[k]=x at *
    have hGD:=aF hgd
    clear hkd hrC hsn hsn2 hys hgd
    go_wp2
    go_roundw
    case rel=>exact ⟨k+1,by omega,by go_num,y1,y2,hB,ys,hown,hGD.out,hys2⟩
    case measure=>simp [intOf];omega
  ·have hke:k=ps.length:=by omega
   subst hke
   obtain ⟨A2,c2,rfl,hsl⟩:=gG hown (fun y hy=>(hgd y hy).keep hB)
   have hlen2:Hid (ys.length=(refsOf ts ls l ps).1.length):=aF (by rw [← hfin.out,← hys.out,cF])
   have hsl2:Hid (Slc 5 RTy wr A2 c2 (refsOf ts ls l ps).1):=aF (by rw [← hfin.out,← hys.out];exact hsl)
   clear hgd hown hsl
   go_wp2
   go_ret
   exact ⟨A2,c2,by rw [hlen2.out];rfl,hsl2.out,hB⟩
theorem yA (A B C:Option Addr) (nt c nl d np e:Nat) (l i q:Int) (us:List Ty) (w:World)
 (hT:Hid (Calls Tryz.prog 147 #[.slice A nt c,.slice B nl d,.agg #[.int .i64 l,.slice C np e]] (w.alloc (.cells #[.int .i64 l,.slice C np e] 55)) fun e' w'=>e' = .returned (.tuple #[.int .i64 i,.int .i64 q])∧Below (w.heap.size+1) (w.alloc (.cells #[.int .i64 l,.slice C np e] 55)) w'))
 (hR:Hid (q=0→∀W,Below w.heap.size w W→Calls Tryz.prog 190 #[.slice A nt c,.slice B nl d,.agg #[.int .i64 l,.slice C np e]] W fun e' w'=>∃A' c',e' = .returned (.slice A' us.length c')∧Slc 5 RTy w' A' c' us∧Below W.heap.size W w')):
 Calls Tryz.prog 148 #[.slice A nt c,.slice B nl d,.agg #[.int .i64 l,.slice C np e]] w fun e' w'=>e' = .returned (.bool (decide (q=0) && !us.any notMu))∧Below w.heap.size w w':=by
 have hB0:=aF (((aV _ _).alloc (aW _) _:Below w.heap.size w (w.alloc (.cells #[.int .i64 l,.slice C np e] 55))))
 have z1:(w.alloc (.cells #[.int .i64 l,.slice C np e] 55)).cell? ⟨w.heap.size,0,none⟩=some (.int .i64 l):=by go_simp
 have z2:(w.alloc (.cells #[.int .i64 l,.slice C np e] 55)).cell? ⟨w.heap.size,1,none⟩=some (.slice C np e):=by go_simp
 by_cases hq:q=0
 ·have hR2:=aF (hR.out hq)
  subst hq
  go_enter Tryz.func148,Tryz.ntmps148
  go_wp2_with (first
   | (go_at_call 147;refine hT.out.mono ?_;rintro e' w1 ⟨rfl,hb1⟩;have z1':=(hb1.cell (p:=⟨w.heap.size,0,none⟩) (by simp)).trans z1;have z2':=(hb1.cell (p:=⟨w.heap.size,1,none⟩) (by simp)).trans z2)
   | (go_at_call 190;refine (hR2.out _ (hB0.out.trans (hb1.mono (Nat.le_succ _)))).mono ?_;rintro e' w2 ⟨A',c',rfl,hs',hb2⟩))
  have hB1:=hB0.out.trans (hb1.mono (Nat.le_succ _))
  have hB2:Below w.heap.size w w2:=hB1.trans (hb2.mono hB1.size)
  have hle:=hs'.le
  have hbig:=hs'.big
  have hz:Hid (us.any notMu=(us.drop 0).any notMu):=aF (by simp)
  clear hT hR hR2 hB0 hB1 hb1 hb2 z1 z2 z1' z2'
  go_loopw [10] (fun v wr=>wr=w2∧∃k:Nat,k≤us.length∧v = .int .i64 k∧Hid (us.any notMu=(us.drop k).any notMu)) (fun v _=>us.length - (intOf v).toNat)
  case atStart=>exact ⟨rfl,0,by omega,rfl,hz⟩
  case round=>
   obtain ⟨rfl,k,hk,rfl,he⟩:=hrel
   clear hz
   by_cases hlt:k<us.length
   ·obtain ⟨b,off,rfl,hb,hr⟩:=hs'.sl.at_ hlt
    have hd:=aF (cU hlt)
    generalize us[k]=x at hr hd
    obtain ⟨g1,g2,_⟩:=hr
    go_wp2
    ·go_ret
     exact ⟨by rw [he.out,hd.out,List.any_cons];simp [notMu, *],hB2⟩
    ·go_roundw
     case rel=>exact ⟨trivial,k+1,by omega,by go_num,aF (by rw [he.out,hd.out,List.any_cons];simp [notMu, *])⟩
     case measure=>simp [intOf];omega
   ·have hd:us.drop k=[]:=bD (by omega)
    have hfin:Hid (us.any notMu=false):=aF (by rw [he.out,hd];rfl)
    clear he hd
    go_wp2
    go_ret
    exact ⟨by rw [hfin.out];rfl,hB2⟩
 ·have hq2:(q != 0)=true:=by simp [hq]
  have hq3:Hid (decide (q=0)=false):=aF (by simp [hq])
  clear hq hR
  go_enter Tryz.func148,Tryz.ntmps148
  go_wp2_with (go_at_call 147;refine hT.out.mono ?_;rintro e' w1 ⟨rfl,hb1⟩)
  go_ret
  exact ⟨by rw [hq3.out];rfl,hB0.out.trans (hb1.mono (Nat.le_succ _))⟩
theorem xY (A B C:Option Addr) (nt c nl d np e:Nat) (l i q:Int) (us:List Ty) (w:World) (hus:us.length≤33) (hbad:q≠0→us=[])
 (hT:Hid (Calls Tryz.prog 147 #[.slice A nt c,.slice B nl d,.agg #[.int .i64 l,.slice C np e]] (w.alloc (.cells #[.int .i64 l,.slice C np e] 55)) fun e' w'=>e' = .returned (.tuple #[.int .i64 i,.int .i64 q])∧Below (w.heap.size+1) (w.alloc (.cells #[.int .i64 l,.slice C np e] 55)) w'))
 (hR:Hid (q=0→∀W,Below w.heap.size w W→Calls Tryz.prog 190 #[.slice A nt c,.slice B nl d,.agg #[.int .i64 l,.slice C np e]] W fun e' w'=>∃A' c',e' = .returned (.slice A' us.length c')∧Slc 5 RTy w' A' c' us∧Below W.heap.size W w')):
 Calls Tryz.prog 191 #[.slice A nt c,.slice B nl d,.agg #[.int .i64 l,.slice C np e]] w fun e' w'=>∃A' c',e' = .returned (.slice A' us.length c')∧Slc 1 RInt w' A' c' (us.map (·.reg))∧Below w.heap.size w w':=by
 have hB0:=aF (((aV _ _).alloc (aW _) _:Below w.heap.size w (w.alloc (.cells #[.int .i64 l,.slice C np e] 55))))
 have z1:(w.alloc (.cells #[.int .i64 l,.slice C np e] 55)).cell? ⟨w.heap.size,0,none⟩=some (.int .i64 l):=by go_simp
 have z2:(w.alloc (.cells #[.int .i64 l,.slice C np e] 55)).cell? ⟨w.heap.size,1,none⟩=some (.slice C np e):=by go_simp
 by_cases hq:q=0
 ·have hR2:=aF (hR.out hq)
  subst hq
  clear hbad
  go_enter Tryz.func191,Tryz.ntmps191
  go_wp2_with (first
   | (go_at_call 147;refine hT.out.mono ?_;rintro e' w1 ⟨rfl,hb1⟩;have z1':=(hb1.cell (p:=⟨w.heap.size,0,none⟩) (by simp)).trans z1;have z2':=(hb1.cell (p:=⟨w.heap.size,1,none⟩) (by simp)).trans z2)
   | (go_at_call 190;refine (hR2.out _ (hB0.out.trans (hb1.mono (Nat.le_succ _)))).mono ?_;rintro e' w2 ⟨A',c',rfl,hs',hb2⟩))
  have hB1:=hB0.out.trans (hb1.mono (Nat.le_succ _))
  have hbw:Below w.heap.size w w2:=hB1.trans (hb2.mono hB1.size)
  have hle:=hs'.le
  have hbig:=hs'.big
  obtain ⟨i0,hi,hz0,hz1,hz2⟩:=info_parts eE
  clear hT hR hR2 hB0 hB1 hb1 hb2 z1 z2 z1' z2'
  go_loopw [7,11] (fun v i wr=>∃k:Nat,k≤us.length∧i = .int .i64 k∧wr.ownsRow w2.heap.size 3 1 v k ((us.map (fun t=>Value.int .i64 t.reg)).take k)∧Below w2.heap.size w2 wr) (fun _ i _=>us.length - (intOf i).toNat)
  case atStart=>exact ⟨0,by omega,rfl,World.ownsRow_nil _ _ _ _,aV _ _⟩
  case round=>
   obtain ⟨k,hk,rfl,hown,hB⟩:=hrel
   by_cases hlt:k<us.length
   ·obtain ⟨bT,oT,rfl,hbT,hrT⟩:=hs'.sl.at_ hlt
    obtain ⟨r1,r2,r3,r4,A2,c2,r5,r6,r7,r8⟩:=RTy.keeps _ _ _ w2.heap.size _ _ _ (aW _) hbT hB hrT
    have htk:Hid ((us.map (fun t=>Value.int .i64 t.reg)).take (k+1)=(us.map (fun t=>Value.int .i64 t.reg)).take k ++ [.int .i64 us[k].reg]):=aF (by
     rw [bE (by simpa using hlt)]
     simp)
    generalize us[k]=tt at *
    clear hrT r8
    have hown2:=hown.alloc (.cells #[.int .i64 tt.reg] 3)
    have hsz:=hB.size
    go_wp2_with (at_builtin;refine wpList_append_own _ rfl _ _ 51 rfl w2.heap.size 3 i0 (.int .i64 0) 1 8 Tryz.underlying51 hi hz0 hz1 hz2 rfl (by decide) _ _ _ rfl hown2 ⟨wr.heap.size,0,none⟩ 1 1 [.int .i64 tt.reg] rfl rfl ?c1 ?c2 ?c3 ?c4 ?c5 ?_)
    try (case c1=>
     intro j u hj
     match j,hj with
     | 0,hj=>
       simp at hj;subst hj
       rw [add0]
       go_simp)
    case c2=>first | rfl | (intro u hu;simp at hu;subst hu;rfl)
    case c3=>unfold maxLen;omega
    case c4=>omega
    case c5=>simp;omega
    intro v' w3 hown' hgrow _
    have hown3:w3.ownsRow w2.heap.size 3 1 v' (k+1) ((us.map (fun t=>Value.int .i64 t.reg)).take (k+1)):=by rw [htk.out];exact hown'
    have hB2:Below w2.heap.size w2 w3:=(hB.alloc hsz _).grown hgrow (by simp;omega) (fun g hg=>(hown2.lt g hg).1)
    clear hown' hgrow hown hown2 hB r1 r2 r3 r4 r5
    go_wp2
    go_roundw
    case rel=>exact ⟨k+1,by omega,by simp,hown3,hB2⟩
    case measure=>simp [intOf];omega
   ·have hlt2:¬((k:Int)<(us.length:Int)):=by omega
    have hke:k=us.length:=by omega
    subst hke
    have hown2:wr.ownsRow w2.heap.size 3 1 u7 (us.map (·.reg)).length ((us.map (·.reg)).map (Value.int .i64)):=by
     have h:=hown
     rw [List.take_of_length_le (by simp)] at h
     rwa [cF,List.map_map]
    obtain ⟨A2,c2,rfl,hsl⟩:=dB hown2
    rw [cF] at *
    have hsl2:=aF hsl
    clear hown hown2 hsl
    go_wp2
    go_ret
    exact ⟨A2,c2,rfl,hsl2.out,hbw.trans (hB.mono hbw.size)⟩
 ·have hq2:(q != 0)=true:=by simp [hq]
  have hu:=hbad hq
  subst hu
  clear hq hR hbad
  go_enter Tryz.func191,Tryz.ntmps191
  go_wp2_with (go_at_call 147;refine hT.out.mono ?_;rintro e' w1 ⟨rfl,hb1⟩)
  go_ret
  exact ⟨none,0,rfl,⟨Sl.nil,by simp,by omega⟩,hB0.out.trans (hb1.mono (Nat.le_succ _))⟩
theorem vI (ts:List Ty) (ls:List Lc) (l:Int) (ps:List Pj):(refsOf ts ls l ps).2=decide ((tyOf ts ls l ps).2=0):=by
 rw [refsOf,rZ]
 by_cases h:(tyOf ts ls l ps).2=0 <;> simp [h]
theorem qD (ts:List Ty) (ls:List Lc) (l:Int) (ps:List Pj) (A B C:Option Addr) (c d e:Nat) (w:World) (hts:Slc 5 RTy w A c ts) (hls:Slc 2 RLc w B d ls) (hps:Slc 2 RPj w C e ps) (hok:Okay ts ls):
 Calls Tryz.prog 148 #[.slice A ts.length c,.slice B ls.length d,.agg #[.int .i64 l,.slice C ps.length e]] w fun e' w'=>e' = .returned (.bool ((refsOf ts ls l ps).2 && !(refsOf ts ls l ps).1.any notMu))∧Below w.heap.size w w':=by
 rw [vI]
 have hT:=kT ts ls l ps.length ps rfl A B C c d e (w.alloc (.cells #[.int .i64 l,.slice C ps.length e] 55)) (hts.keep RTy.keeps ((aV _ _).alloc (aW _) _)) (hls.keep RLc.keeps ((aV _ _).alloc (aW _) _)) (hps.keep RPj.keeps ((aV _ _).alloc (aW _) _)) hok
 rw [bH] at hT
 exact yA A B C ts.length c ls.length d ps.length e l _ _ _ w (aF hT) (aF (fun hq W hW=>pS ts ls l ps A B C c d e W (hts.keep RTy.keeps hW) (hls.keep RLc.keeps hW) (hps.keep RPj.keeps hW) hok hq))
theorem pR (ts:List Ty) (ls:List Lc) (l:Int) (ps:List Pj) (A B C:Option Addr) (c d e:Nat) (w:World) (hts:Slc 5 RTy w A c ts) (hls:Slc 2 RLc w B d ls) (hps:Slc 2 RPj w C e ps) (hok:Okay ts ls):
 Calls Tryz.prog 191 #[.slice A ts.length c,.slice B ls.length d,.agg #[.int .i64 l,.slice C ps.length e]] w fun e' w'=>∃A' c',e' = .returned (.slice A' (refsOf ts ls l ps).1.length c')∧Slc 1 RInt w' A' c' ((refsOf ts ls l ps).1.map (·.reg))∧Below w.heap.size w w':=by
 have hT:=kT ts ls l ps.length ps rfl A B C c d e (w.alloc (.cells #[.int .i64 l,.slice C ps.length e] 55)) (hts.keep RTy.keeps ((aV _ _).alloc (aW _) _)) (hls.keep RLc.keeps ((aV _ _).alloc (aW _) _)) (hps.keep RPj.keeps ((aV _ _).alloc (aW _) _)) hok
 rw [bH] at hT
 exact xY A B C ts.length c ls.length d ps.length e l _ _ _ w (jU _ _ _ _) (fun hq=>by rw [mJ hq]) (aF hT) (aF (fun hq W hW=>pS ts ls l ps A B C c d e W (hts.keep RTy.keeps hW) (hls.keep RLc.keeps hW) (hps.keep RPj.keeps hW) hok hq))
end
section
open Go Go.RowKit
theorem oP:(Tryz.prog.info? 9).map (fun i=>(i.zero,i.size,i.bytes))=some (some (.string { data:= #[] }),1,16):=by kernel_rfl
theorem vW (h g t:Nat) (T:Option Addr) (c:Nat) (tbl:List ByteArray) (s:Rs) (w:World) (H:DTab w h g t T c tbl) (hr:PRd w g s):
 Calls Tryz.prog 43 #[.pointer (some ⟨h,0,none⟩),.func (.func 42) #[.pointer (some ⟨h,0,none⟩)] #[]] w fun e' w'=>∃A c n,e' = .returned (.slice A n c)∧PRd w' g (listS (nameS tbl) s).2∧But g w w'∧
  ((listS (nameS tbl) s).2.err=0→(listS (nameS tbl) s).1.length=n∧w'.ownsRow w.heap.size 9 1 (.slice A n c) n ((listS (nameS tbl) s).1.flatMap (fun x=>[Value.string x]))):=by
 obtain ⟨i0,hi,hz0,hz1,hz2⟩:=info_parts oP
 have hC:=fZ g s w hr
 have hgl:=hr.lt
 have hD0:=H.c0
 have HH:=aF H
 have hnl:=jK 65535 s
 have hn0:=fN 65535 s
 obtain ⟨Q,hQ⟩:∃Q,listS (nameS tbl) s=Q:=⟨_,rfl⟩
 rw [hQ]
 unfold listS at hQ
 generalize countS 65535 s=K at *
 obtain ⟨n,s0⟩:=K
 simp only at hC hQ hnl hn0
 have HQ:=aF hQ
 have HC:=aF hC
 clear hQ hC hr H
 go_enter Tryz.func43,Tryz.ntmps43
 go_wp2_with (go_at_call 88;refine HC.out.mono ?_;rintro e' w1 ⟨rfl,hr1,hb1⟩;have HR1:=aF hr1;have HB1:=aF hb1;clear hr1 hb1)
 have hI0:∃(k:Nat) (sk:Rs) (ys:List ByteArray),n - n=k∧k≤n∧ys.length=k∧w1.ownsRow w.heap.size 9 1 (.slice none 0 0) k (ys.flatMap (fun x=>[Value.string x]))∧PRd w1 g sk∧But g w w1∧(0<n→sk.err=0)∧Hid (Q=(ys ++ (itemsS (nameS tbl) (n - k) sk).1,(itemsS (nameS tbl) (n - k) sk).2)):=
  ⟨0,s0,[],by omega,by omega,rfl,World.ownsRow_nil _ _ _ _,HR1.out,HB1.out,fun h=>Decidable.byContradiction fun h1=>by have:=hn0 h1;omega,aF (by rw [← HQ.out];rfl)⟩
 have HI0:=aF hI0
 clear hI0 HR1 HB1 HC
 go_loopw [5,12] (fun v i wr=>∃(k:Nat) (sk:Rs) (ys:List ByteArray),i = .int .i64 k∧k≤n∧ys.length=k∧wr.ownsRow w.heap.size 9 1 v k (ys.flatMap (fun x=>[Value.string x]))∧PRd wr g sk∧But g w wr∧(0<n→sk.err=0)∧Hid (Q=(ys ++ (itemsS (nameS tbl) (n - k) sk).1,(itemsS (nameS tbl) (n - k) sk).2))) (fun _ i _=>n - (intOf i).toNat)
 case atStart=>
  obtain ⟨k,sk,ys,hk,h1⟩:=HI0.out
  have:k=0:=by omega
  subst this
  exact ⟨0,sk,ys,rfl,h1⟩
 case round=>
  clear HI0
  obtain ⟨k,sk,ys,rfl,hk,hyl,hown,hrd,hbt,hsk,HQ2⟩:=hrel
  by_cases hlt:k<n
  ·have hsz:=hbt.size
   have hst:Hid (itemsS (nameS tbl) (n - k) sk=if ((nameS tbl) sk).2.err=0 then (((nameS tbl) sk).1 :: (itemsS (nameS tbl) (n - (k+1)) ((nameS tbl) sk).2).1,(itemsS (nameS tbl) (n - (k+1)) ((nameS tbl) sk).2).2) else ([],((nameS tbl) sk).2)):=aF (by
    rw [show n - k=(n - (k+1))+1 by omega]
    rfl)
   have HN:=aF (lA h g t T c tbl sk wr (HH.out.but hbt) hrd)
   have HHW:=aF (HH.out.but hbt)
   generalize (nameS tbl) sk=Z at *
   obtain ⟨x,s'⟩:=Z
   simp only at hst HN
   have HOWN:=aF hown
   have HBT:=aF hbt
   clear hown hrd hbt
   go_wp2_with fail
   go_at_call 42
   refine HN.out.mono ?_
   rintro e' W3 ⟨v0,rfl,hv0,hr3,hb3⟩
   have HV0:=aF hv0
   clear hv0
   have y0:=(HHW.out.but hb3).c0
   have HE:=aF (gZ g s' W3 hr3)
   have HR3:=aF hr3
   have HB3:=aF hb3
   clear hr3 hb3 HN
   by_cases he:s'.err=0
   ·rw [he] at HE
    rw [aY he] at hst
    obtain rfl:x=v0:=(HV0.out he).symm
    have hown2:(W3.alloc (.cells #[.string x] 9)).ownsRow w.heap.size 9 1 u5 k (ys.flatMap (fun x=>[Value.string x])):=
     (cY HOWN.out (fun k hk1 hk2 _=>HB3.out.block k hk2 (by omega))).alloc _
    have hbw:But g w W3:=HBT.out.trans HB3.out
    have hwz:=hbw.size
    have HBW:=aF hbw
    clear hbw
    go_wp2_with (first
     | (at_builtin;refine wpList_append_own _ rfl _ _ 22 rfl w.heap.size 9 i0 (.string { data:= #[] }) 1 16 Tryz.underlying22 hi hz0 hz1 hz2 rfl (by decide) _ _ _ rfl hown2 ⟨W3.heap.size,0,none⟩ 1 1 [.string x] rfl rfl ?c1 ?c2 ?c3 ?c4 ?c5 ?_)
     | (go_at_call 89;refine HE.out.mono ?_;rintro e' w3 ⟨rfl,hw⟩;obtain rfl:=hw.symm))
    case c1=>
     intro j u hj
     rw [add0]
     exact dZ W3 [.string x] 9 j u hj
    case c2=>intro u hu;simp at hu;(subst hu;rfl)
    case c3=>unfold maxLen;omega
    case c4=>omega
    case c5=>simp;omega
    intro v' w4 hown' hgrow _
    have hown3:w4.ownsRow w.heap.size 9 1 v' (k+1) ((ys ++ [x]).flatMap (fun x=>[Value.string x])):=by
     rw [cA,List.flatMap_singleton];exact hown'
    have hg4:∀j,j<w.heap.size→w4.heap[j]?=W3.heap[j]?:=fun j hj=>(hgrow.block j (by simp;omega) (dG hown2 hj)).trans (Below.heap_alloc _ _ _ (by omega))
    have hb4:But g w w4:=⟨hgrow.os.trans HBW.out.os,hgrow.tape.trans HBW.out.tape,hgrow.output.trans HBW.out.output,by have:=hgrow.size;simp at this;omega,fun j hj hne=>(hg4 j hj).trans (HBW.out.block j hj hne)⟩
    have hr4:PRd w4 g s':=HR3.out.low (by have:=hgrow.size;simp at this;omega) (fun j hj=>hg4 j (by omega))
    clear hown' hgrow hown2 hg4
    go_wp2_with fail
    go_roundw
    case rel=>exact ⟨k+1,s',ys ++ [x],by go_num,by omega,by simp [hyl],hown3,hr4,hb4,fun _=>he,aF (by rw [HQ2.out,hst.out];simp)⟩
    case measure=>simp [intOf];omega
   ·have e2:(s'.err == 0)=false:=by simp [he]
    have e3:(s'.err != 0)=true:=by simp [he]
    rw [aX he] at hst
    have HHE:=aF he
    have HQ3:Hid (Q=(ys,s')):=aF (by rw [HQ2.out,hst.out];simp)
    clear he
    generalize s'.err=er at HE e2 e3
    go_wp2_with (go_at_call 89;refine HE.out.mono ?_;rintro e' w3 ⟨rfl,hw⟩;obtain rfl:=hw)
    go_ret
    rw [HQ3.out]
    exact ⟨none,0,0,rfl,HR3.out,HBT.out.trans HB3.out,fun h0=>absurd h0 HHE.out⟩
  ·have hkn:k=n:=by omega
   have HQ3:Hid (Q=(ys,sk)):=aF (by rw [HQ2.out,hkn,Nat.sub_self];simp [itemsS])
   obtain ⟨A,cc,hv⟩:∃A cc,u5 = .slice A k cc:=by
    rcases hown.2 with ⟨h1,h2⟩ | ⟨g',cap,cur,h1,_⟩
    ·exact ⟨none,0,by rw [h1,h2]⟩
    ·exact ⟨_,cap,h1⟩
   subst hv
   have HOWN:=aF hown
   have HRD:=aF hrd
   have HBT:=aF hbt
   clear hown hrd hbt
   go_wp2_with fail
   go_ret
   rw [HQ3.out]
   exact ⟨A,cc,k,rfl,HRD.out,HBT.out,fun _=>⟨hyl,HOWN.out⟩⟩
theorem xHF:(Tryz.prog.info? 79).map (fun i=>(i.zero,i.size,i.bytes))=some (some (.agg #[.int .i64 0,.int .i64 0]),2,16):=by kernel_rfl
theorem sC (h g t:Nat) (T:Option Addr) (c:Nat) (tbl:List ByteArray) (s:Rs) (w:World) (H:DTab w h g t T c tbl) (hr:PRd w g s):
 Calls Tryz.prog 44 #[.pointer (some ⟨h,0,none⟩),.func (.func 45) #[.pointer (some ⟨h,0,none⟩)] #[]] w fun e' w'=>∃A c n,e' = .returned (.slice A n c)∧PRd w' g (listS pairS s).2∧But g w w'∧
  ((listS pairS s).2.err=0→(listS pairS s).1.length=n∧w'.ownsRow w.heap.size 79 2 (.slice A n c) n ((listS pairS s).1.flatMap (fun x=>[Value.int .i64 x.1,.int .i64 x.2]))):=by
 obtain ⟨i0,hi,hz0,hz1,hz2⟩:=info_parts xHF
 have hC:=fZ g s w hr
 have hgl:=hr.lt
 have hD0:=H.c0
 have HH:=aF H
 have hnl:=jK 65535 s
 have hn0:=fN 65535 s
 obtain ⟨Q,hQ⟩:∃Q,listS pairS s=Q:=⟨_,rfl⟩
 rw [hQ]
 unfold listS at hQ
 generalize countS 65535 s=K at *
 obtain ⟨n,s0⟩:=K
 simp only at hC hQ hnl hn0
 have HQ:=aF hQ
 have HC:=aF hC
 clear hQ hC hr H
 go_enter Tryz.func44,Tryz.ntmps44
 go_wp2_with (go_at_call 88;refine HC.out.mono ?_;rintro e' w1 ⟨rfl,hr1,hb1⟩;have HR1:=aF hr1;have HB1:=aF hb1;clear hr1 hb1)
 have hI0:∃(k:Nat) (sk:Rs) (ys:List (Int × Int)),n - n=k∧k≤n∧ys.length=k∧w1.ownsRow w.heap.size 79 2 (.slice none 0 0) k (ys.flatMap (fun x=>[Value.int .i64 x.1,.int .i64 x.2]))∧PRd w1 g sk∧But g w w1∧(0<n→sk.err=0)∧Hid (Q=(ys ++ (itemsS pairS (n - k) sk).1,(itemsS pairS (n - k) sk).2)):=
  ⟨0,s0,[],by omega,by omega,rfl,World.ownsRow_nil _ _ _ _,HR1.out,HB1.out,fun h=>Decidable.byContradiction fun h1=>by have:=hn0 h1;omega,aF (by rw [← HQ.out];rfl)⟩
 have HI0:=aF hI0
 clear hI0 HR1 HB1 HC
 go_loopw [5,12] (fun v i wr=>∃(k:Nat) (sk:Rs) (ys:List (Int × Int)),i = .int .i64 k∧k≤n∧ys.length=k∧wr.ownsRow w.heap.size 79 2 v k (ys.flatMap (fun x=>[Value.int .i64 x.1,.int .i64 x.2]))∧PRd wr g sk∧But g w wr∧(0<n→sk.err=0)∧Hid (Q=(ys ++ (itemsS pairS (n - k) sk).1,(itemsS pairS (n - k) sk).2))) (fun _ i _=>n - (intOf i).toNat)
 case atStart=>
  obtain ⟨k,sk,ys,hk,h1⟩:=HI0.out
  have:k=0:=by omega
  subst this
  exact ⟨0,sk,ys,rfl,h1⟩
 case round=>
  clear HI0
  obtain ⟨k,sk,ys,rfl,hk,hyl,hown,hrd,hbt,hsk,HQ2⟩:=hrel
  by_cases hlt:k<n
  ·have hsz:=hbt.size
   have hst:Hid (itemsS pairS (n - k) sk=if (pairS sk).2.err=0 then ((pairS sk).1 :: (itemsS pairS (n - (k+1)) (pairS sk).2).1,(itemsS pairS (n - (k+1)) (pairS sk).2).2) else ([],(pairS sk).2)):=aF (by
    rw [show n - k=(n - (k+1))+1 by omega]
    rfl)
   have HN:=aF (yK h g t T c tbl sk wr (HH.out.but hbt) hrd)
   have HHW:=aF (HH.out.but hbt)
   generalize pairS sk=Z at *
   obtain ⟨x,s'⟩:=Z
   simp only at hst HN
   have HOWN:=aF hown
   have HBT:=aF hbt
   clear hown hrd hbt
   go_wp2_with fail
   go_at_call 45
   refine HN.out.mono ?_
   rintro e' w2 ⟨rfl,hr2,hb2⟩
   obtain ⟨W3,hW3⟩:∃W3,w2.alloc (.cells #[.int .i64 x.1,.int .i64 x.2] 79)=W3:=⟨_,rfl⟩
   have hbW:Below w2.heap.size w2 W3:=by rw [← hW3];exact (aV _ _).alloc (aW _) _
   have hkW:W3.heap[w2.heap.size]?=some (.cells #[.int .i64 x.1,.int .i64 x.2] 79 (0,0)):=by rw [← hW3];exact heap_alloc_new w2 _
   obtain ⟨z0,z1,_,_⟩:=blk2 hkW
   have hr3:=hr2.keep hbW
   have hb3:But g wr W3:=hb2.trans (But.of_below hbW)
   clear hr2 hb2 hbW hkW
   have y0:=(HHW.out.but hb3).c0
   have HE:=aF (gZ g s' W3 hr3)
   have HR3:=aF hr3
   have HB3:=aF hb3
   clear hr3 hb3 HN
   by_cases he:s'.err=0
   ·rw [he] at HE
    rw [aY he] at hst
    skip
    have hown2:(W3.alloc (.cells #[.int .i64 x.1,.int .i64 x.2] 79)).ownsRow w.heap.size 79 2 u5 k (ys.flatMap (fun x=>[Value.int .i64 x.1,.int .i64 x.2])):=
     (cY HOWN.out (fun k hk1 hk2 _=>HB3.out.block k hk2 (by omega))).alloc _
    have hbw:But g w W3:=HBT.out.trans HB3.out
    have hwz:=hbw.size
    have HBW:=aF hbw
    clear hbw
    go_wp2_with (first
     | (at_builtin;refine wpList_append_own _ rfl _ _ 23 rfl w.heap.size 79 i0 (.agg #[.int .i64 0,.int .i64 0]) 2 16 Tryz.underlying23 hi hz0 hz1 hz2 rfl (by decide) _ _ _ rfl hown2 ⟨W3.heap.size,0,none⟩ 1 1 [.int .i64 x.1,.int .i64 x.2] rfl rfl ?c1 ?c2 ?c3 ?c4 ?c5 ?_)
     | (go_at_call 89;refine HE.out.mono ?_;rintro e' w3 ⟨rfl,hw⟩;obtain rfl:=hw.symm))
    case c1=>
     intro j u hj
     rw [add0]
     exact dZ W3 [.int .i64 x.1,.int .i64 x.2] 79 j u hj
    case c2=>intro u hu;simp at hu;(rcases hu with rfl | rfl <;> rfl)
    case c3=>unfold maxLen;omega
    case c4=>omega
    case c5=>simp;omega
    intro v' w4 hown' hgrow _
    have hown3:w4.ownsRow w.heap.size 79 2 v' (k+1) ((ys ++ [x]).flatMap (fun x=>[Value.int .i64 x.1,.int .i64 x.2])):=by
     rw [cA,List.flatMap_singleton];exact hown'
    have hg4:∀j,j<w.heap.size→w4.heap[j]?=W3.heap[j]?:=fun j hj=>(hgrow.block j (by simp;omega) (dG hown2 hj)).trans (Below.heap_alloc _ _ _ (by omega))
    have hb4:But g w w4:=⟨hgrow.os.trans HBW.out.os,hgrow.tape.trans HBW.out.tape,hgrow.output.trans HBW.out.output,by have:=hgrow.size;simp at this;omega,fun j hj hne=>(hg4 j hj).trans (HBW.out.block j hj hne)⟩
    have hr4:PRd w4 g s':=HR3.out.low (by have:=hgrow.size;simp at this;omega) (fun j hj=>hg4 j (by omega))
    clear hown' hgrow hown2 hg4
    go_wp2_with fail
    go_roundw
    case rel=>exact ⟨k+1,s',ys ++ [x],by go_num,by omega,by simp [hyl],hown3,hr4,hb4,fun _=>he,aF (by rw [HQ2.out,hst.out];simp)⟩
    case measure=>simp [intOf];omega
   ·have e2:(s'.err == 0)=false:=by simp [he]
    have e3:(s'.err != 0)=true:=by simp [he]
    rw [aX he] at hst
    have HHE:=aF he
    have HQ3:Hid (Q=(ys,s')):=aF (by rw [HQ2.out,hst.out];simp)
    clear he
    generalize s'.err=er at HE e2 e3
    go_wp2_with (go_at_call 89;refine HE.out.mono ?_;rintro e' w3 ⟨rfl,hw⟩;obtain rfl:=hw)
    go_ret
    rw [HQ3.out]
    exact ⟨none,0,0,rfl,HR3.out,HBT.out.trans HB3.out,fun h0=>absurd h0 HHE.out⟩
  ·have hkn:k=n:=by omega
   have HQ3:Hid (Q=(ys,sk)):=aF (by rw [HQ2.out,hkn,Nat.sub_self];simp [itemsS])
   obtain ⟨A,cc,hv⟩:∃A cc,u5 = .slice A k cc:=by
    rcases hown.2 with ⟨h1,h2⟩ | ⟨g',cap,cur,h1,_⟩
    ·exact ⟨none,0,by rw [h1,h2]⟩
    ·exact ⟨_,cap,h1⟩
   subst hv
   have HOWN:=aF hown
   have HRD:=aF hrd
   have HBT:=aF hbt
   clear hown hrd hbt
   go_wp2_with fail
   go_ret
   rw [HQ3.out]
   exact ⟨A,cc,k,rfl,HRD.out,HBT.out,fun _=>⟨hyl,HOWN.out⟩⟩
theorem xHG:(Tryz.prog.info? 87).map (fun i=>(i.zero,i.size,i.bytes))=some (some (.agg #[.string { data:= #[] },.int .i64 0]),2,24):=by kernel_rfl
theorem vX (h g t:Nat) (T:Option Addr) (c:Nat) (tbl:List ByteArray) (s:Rs) (w:World) (H:DTab w h g t T c tbl) (hr:PRd w g s):
 Calls Tryz.prog 48 #[.pointer (some ⟨h,0,none⟩),.func (.func 49) #[.pointer (some ⟨h,0,none⟩)] #[]] w fun e' w'=>∃A c n,e' = .returned (.slice A n c)∧PRd w' g (listS (localS tbl) s).2∧But g w w'∧
  ((listS (localS tbl) s).2.err=0→(listS (localS tbl) s).1.length=n∧w'.ownsRow w.heap.size 87 2 (.slice A n c) n ((listS (localS tbl) s).1.flatMap (fun x=>[Value.string x.name,.int .i64 x.type]))):=by
 obtain ⟨i0,hi,hz0,hz1,hz2⟩:=info_parts xHG
 have hC:=fZ g s w hr
 have hgl:=hr.lt
 have hD0:=H.c0
 have HH:=aF H
 have hnl:=jK 65535 s
 have hn0:=fN 65535 s
 obtain ⟨Q,hQ⟩:∃Q,listS (localS tbl) s=Q:=⟨_,rfl⟩
 rw [hQ]
 unfold listS at hQ
 generalize countS 65535 s=K at *
 obtain ⟨n,s0⟩:=K
 simp only at hC hQ hnl hn0
 have HQ:=aF hQ
 have HC:=aF hC
 clear hQ hC hr H
 go_enter Tryz.func48,Tryz.ntmps48
 go_wp2_with (go_at_call 88;refine HC.out.mono ?_;rintro e' w1 ⟨rfl,hr1,hb1⟩;have HR1:=aF hr1;have HB1:=aF hb1;clear hr1 hb1)
 have hI0:∃(k:Nat) (sk:Rs) (ys:List Lc),n - n=k∧k≤n∧ys.length=k∧w1.ownsRow w.heap.size 87 2 (.slice none 0 0) k (ys.flatMap (fun x=>[Value.string x.name,.int .i64 x.type]))∧PRd w1 g sk∧But g w w1∧(0<n→sk.err=0)∧Hid (Q=(ys ++ (itemsS (localS tbl) (n - k) sk).1,(itemsS (localS tbl) (n - k) sk).2)):=
  ⟨0,s0,[],by omega,by omega,rfl,World.ownsRow_nil _ _ _ _,HR1.out,HB1.out,fun h=>Decidable.byContradiction fun h1=>by have:=hn0 h1;omega,aF (by rw [← HQ.out];rfl)⟩
 have HI0:=aF hI0
 clear hI0 HR1 HB1 HC
 go_loopw [5,12] (fun v i wr=>∃(k:Nat) (sk:Rs) (ys:List Lc),i = .int .i64 k∧k≤n∧ys.length=k∧wr.ownsRow w.heap.size 87 2 v k (ys.flatMap (fun x=>[Value.string x.name,.int .i64 x.type]))∧PRd wr g sk∧But g w wr∧(0<n→sk.err=0)∧Hid (Q=(ys ++ (itemsS (localS tbl) (n - k) sk).1,(itemsS (localS tbl) (n - k) sk).2))) (fun _ i _=>n - (intOf i).toNat)
 case atStart=>
  obtain ⟨k,sk,ys,hk,h1⟩:=HI0.out
  have:k=0:=by omega
  subst this
  exact ⟨0,sk,ys,rfl,h1⟩
 case round=>
  clear HI0
  obtain ⟨k,sk,ys,rfl,hk,hyl,hown,hrd,hbt,hsk,HQ2⟩:=hrel
  by_cases hlt:k<n
  ·have hsz:=hbt.size
   have hst:Hid (itemsS (localS tbl) (n - k) sk=if ((localS tbl) sk).2.err=0 then (((localS tbl) sk).1 :: (itemsS (localS tbl) (n - (k+1)) ((localS tbl) sk).2).1,(itemsS (localS tbl) (n - (k+1)) ((localS tbl) sk).2).2) else ([],((localS tbl) sk).2)):=aF (by
    rw [show n - k=(n - (k+1))+1 by omega]
    rfl)
   have HN:=aF (vU h g t T c tbl sk wr (HH.out.but hbt) hrd)
   have HHW:=aF (HH.out.but hbt)
   generalize (localS tbl) sk=Z at *
   obtain ⟨x,s'⟩:=Z
   simp only at hst HN
   have HOWN:=aF hown
   have HBT:=aF hbt
   clear hown hrd hbt
   go_wp2_with fail
   go_at_call 49
   refine HN.out.mono ?_
   rintro e' w2 ⟨v0,rfl,hv0,hr2,hb2⟩
   have HV0:=aF hv0
   clear hv0
   obtain ⟨W3,hW3⟩:∃W3,w2.alloc (.cells #[.string v0,.int .i64 x.type] 87)=W3:=⟨_,rfl⟩
   have hbW:Below w2.heap.size w2 W3:=by rw [← hW3];exact (aV _ _).alloc (aW _) _
   have hkW:W3.heap[w2.heap.size]?=some (.cells #[.string v0,.int .i64 x.type] 87 (0,0)):=by rw [← hW3];exact heap_alloc_new w2 _
   obtain ⟨z0,z1,_,_⟩:=blk2 hkW
   have hr3:=hr2.keep hbW
   have hb3:But g wr W3:=hb2.trans (But.of_below hbW)
   clear hr2 hb2 hbW hkW
   have y0:=(HHW.out.but hb3).c0
   have HE:=aF (gZ g s' W3 hr3)
   have HR3:=aF hr3
   have HB3:=aF hb3
   clear hr3 hb3 HN
   by_cases he:s'.err=0
   ·rw [he] at HE
    rw [aY he] at hst
    obtain rfl:v0=x.name:=HV0.out he
    have hown2:(W3.alloc (.cells #[.string x.name,.int .i64 x.type] 87)).ownsRow w.heap.size 87 2 u5 k (ys.flatMap (fun x=>[Value.string x.name,.int .i64 x.type])):=
     (cY HOWN.out (fun k hk1 hk2 _=>HB3.out.block k hk2 (by omega))).alloc _
    have hbw:But g w W3:=HBT.out.trans HB3.out
    have hwz:=hbw.size
    have HBW:=aF hbw
    clear hbw
    go_wp2_with (first
     | (at_builtin;refine wpList_append_own _ rfl _ _ 25 rfl w.heap.size 87 i0 (.agg #[.string { data:= #[] },.int .i64 0]) 2 24 Tryz.underlying25 hi hz0 hz1 hz2 rfl (by decide) _ _ _ rfl hown2 ⟨W3.heap.size,0,none⟩ 1 1 [.string x.name,.int .i64 x.type] rfl rfl ?c1 ?c2 ?c3 ?c4 ?c5 ?_)
     | (go_at_call 89;refine HE.out.mono ?_;rintro e' w3 ⟨rfl,hw⟩;obtain rfl:=hw.symm))
    case c1=>
     intro j u hj
     rw [add0]
     exact dZ W3 [.string x.name,.int .i64 x.type] 87 j u hj
    case c2=>intro u hu;simp at hu;(rcases hu with rfl | rfl <;> rfl)
    case c3=>unfold maxLen;omega
    case c4=>omega
    case c5=>simp;omega
    intro v' w4 hown' hgrow _
    have hown3:w4.ownsRow w.heap.size 87 2 v' (k+1) ((ys ++ [x]).flatMap (fun x=>[Value.string x.name,.int .i64 x.type])):=by
     rw [cA,List.flatMap_singleton];exact hown'
    have hg4:∀j,j<w.heap.size→w4.heap[j]?=W3.heap[j]?:=fun j hj=>(hgrow.block j (by simp;omega) (dG hown2 hj)).trans (Below.heap_alloc _ _ _ (by omega))
    have hb4:But g w w4:=⟨hgrow.os.trans HBW.out.os,hgrow.tape.trans HBW.out.tape,hgrow.output.trans HBW.out.output,by have:=hgrow.size;simp at this;omega,fun j hj hne=>(hg4 j hj).trans (HBW.out.block j hj hne)⟩
    have hr4:PRd w4 g s':=HR3.out.low (by have:=hgrow.size;simp at this;omega) (fun j hj=>hg4 j (by omega))
    clear hown' hgrow hown2 hg4
    go_wp2_with fail
    go_roundw
    case rel=>exact ⟨k+1,s',ys ++ [x],by go_num,by omega,by simp [hyl],hown3,hr4,hb4,fun _=>he,aF (by rw [HQ2.out,hst.out];simp)⟩
    case measure=>simp [intOf];omega
   ·have e2:(s'.err == 0)=false:=by simp [he]
    have e3:(s'.err != 0)=true:=by simp [he]
    rw [aX he] at hst
    have HHE:=aF he
    have HQ3:Hid (Q=(ys,s')):=aF (by rw [HQ2.out,hst.out];simp)
    clear he
    generalize s'.err=er at HE e2 e3
    go_wp2_with (go_at_call 89;refine HE.out.mono ?_;rintro e' w3 ⟨rfl,hw⟩;obtain rfl:=hw)
    go_ret
    rw [HQ3.out]
    exact ⟨none,0,0,rfl,HR3.out,HBT.out.trans HB3.out,fun h0=>absurd h0 HHE.out⟩
  ·have hkn:k=n:=by omega
   have HQ3:Hid (Q=(ys,sk)):=aF (by rw [HQ2.out,hkn,Nat.sub_self];simp [itemsS])
   obtain ⟨A,cc,hv⟩:∃A cc,u5 = .slice A k cc:=by
    rcases hown.2 with ⟨h1,h2⟩ | ⟨g',cap,cur,h1,_⟩
    ·exact ⟨none,0,by rw [h1,h2]⟩
    ·exact ⟨_,cap,h1⟩
   subst hv
   have HOWN:=aF hown
   have HRD:=aF hrd
   have HBT:=aF hbt
   clear hown hrd hbt
   go_wp2_with fail
   go_ret
   rw [HQ3.out]
   exact ⟨A,cc,k,rfl,HRD.out,HBT.out,fun _=>⟨hyl,HOWN.out⟩⟩
theorem zB (ts:List Ty) (A:Option Addr) (c:Nat) (w:World) (hs:Slc 5 RTy w A c ts):
 Calls Tryz.prog 73 #[.slice A ts.length c] w fun e' w'=>(∃q,e' = .returned (.int .i64 q)∧(q≤0→ts.length≤200))∧Below w.heap.size w w':=by
 have hle:=hs.le
 have hbig:=hs.big
 go_enter Tryz.func73,Tryz.ntmps73
 go_wp2
 go_loopw [3,8] (fun n v wr=>∃k m:Nat,k≤ts.length∧k≤m∧m≤200∧n = .int .i64 m∧v = .int .i64 k∧Below w.heap.size w wr) (fun _ v _=>ts.length - (intOf v).toNat)
 case atStart=>exact ⟨0,0,by omega,by omega,by omega,rfl,rfl,aV _ _⟩
 case round=>
  obtain ⟨k,m,hk,hkm,hm,rfl,rfl,hB⟩:=hrel
  by_cases hlt:k<ts.length
  ·obtain ⟨b1,o1,rfl,hb1,r1⟩:=hs.sl.at_ hlt
   obtain ⟨r1,r2,r3,r4,A2,c2,r5,r6,r7,r8⟩:=RTy.keeps _ _ _ w.heap.size _ _ _ (aW _) hb1 hB r1
   generalize ts[k]=x at *
   clear r8 hs
   have hBs:=hB.size
   go_wp2
   all_goals first
    | (go_ret
       exact ⟨⟨1,rfl,by omega⟩,aG⟩)
    | (go_roundw
       case rel=>
        refine ⟨k+1,m+(1+if 500<x.flds.length then 500 else x.flds.length),by omega,by omega,?_,?_,by go_num,aG⟩
        ·grind
        ·congr 1;grind
       case measure=>simp [intOf];omega)
  ·go_wp2
   go_ret
   exact ⟨⟨0,rfl,fun _=>by omega⟩,hB⟩
end
end Go.Proofs.YtbnljlpefpllcaaGreatDoor
