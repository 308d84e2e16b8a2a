/-
  Parts of the proof: KB KD.
-/
import Derived.Test.YtcfchohkmkilpaaGreatDoorLP0
import Derived.Test.YtcfchohkmkilpaaGreatDoorLP5
import Derived.Test.YtcfchohkmkilpaaGreatDoorLP18
import Derived.Test.YtcfchohkmkilpaaGreatDoorLP17
import Derived.Test.YtcfchohkmkilpaaGreatDoorLP8
namespace Go.Proofs.YtcfchohkmkilpaaGreatDoor
set_option maxRecDepth 100000
set_option maxHeartbeats 16000000
section
open Go Go.RowKit Go.Maps
theorem gZ {A:World} {base:Nat} {e:TypeId} {size:Nat} {v:Value} {m:Nat} {xs:List Value} (h:A.ownsRow base e size v m xs) {g:Nat} (hg:v.ownBlock=some g):∃cur,A.heap[g]?=some (.cells cur e (0,0)):=by
 rcases h.2 with ⟨rfl,_⟩ | ⟨g',cap,cur,rfl,_,hh,_⟩
 ·cases hg
 ·injection hg with hg
  exact ⟨cur,hg ▸ hh⟩
def noPr:Obj->Prop
 | .cells _ e _=>e≠43
 | .map _ _=>True
 | _=>False
structure Ks (A B:World):Prop where
 size:A.heap.size<=B.heap.size
 same:∀(k:Nat) (o:Obj),A.heap[k]?=some o->noPr o->B.heap[k]?=some o
theorem Ks.refl (A:World):Ks A A:=⟨aY _,fun _ _ h _=>h⟩
theorem Ks.trans {A B C:World} (h:Ks A B) (g:Ks B C):Ks A C:=⟨bX h.size g.size,fun k o a b=>g.same k o (h.same k o a b) b⟩
theorem Ks.of_below {A B:World} (h:Below A.heap.size A B):Ks A B:=⟨h.size,fun k _ a _=>(h.block k (Array.getElem?_eq_some_iff.1 a).1).trans a⟩
theorem Ks.grow {A B:World} {base:Nat} {v:Value} {m:Nat} {xs:List Value} (h:A.ownsRow base 43 2 v m xs) (hg:A.grownBy B v.ownBlock):Ks A B:=
 ⟨hg.size,fun k o a b=>(hg.block k (Array.getElem?_eq_some_iff.1 a).1 (fun e=>by
   obtain ⟨cur,hc⟩:=gZ h e.symm;rw [a] at hc;injection hc with hc;subst hc
   exact b rfl)).trans a⟩
theorem RngI.iter {w:World} {b r n:Nat} {sl:List Int} {left:Int->Bool} {cnt:Nat} (h:RngI w b r n sl left cnt):∃m s t c,w.heap[r]?=some (.mapIter m s t c):=by
 obtain ⟨D,lf,⟨es,clock,since,seen,c0,g1,F,hs,hD,g2,rest⟩,h2⟩:=h;exact ⟨_,_,_,_,g2⟩
theorem RngI.mobj {w:World} {b r n:Nat} {sl:List Int} {left:Int->Bool} {cnt:Nat} (h:RngI w b r n sl left cnt):∃es c,w.heap[b]?=some (.map es c):=by
 obtain ⟨D,lf,⟨es,clock,since,seen,c0,g1,F,hs,hD,g2,rest⟩,h2⟩:=h;exact ⟨_,_,g1⟩
theorem Ks.iter {A B:World} {r:Nat} {m s t c} (h:A.heap[r]?=some (.mapIter m s t c)) (hg:A.grownBy B (some r)):Ks A B:=
 ⟨hg.size,fun k o a b=>(hg.block k (Array.getElem?_eq_some_iff.1 a).1 (fun e=>by
   injection e with e;subst e
   rw [a] at h;injection h with h;subst h
   exact b)).trans a⟩
theorem nR {A B:World} {base:Nat} {e:TypeId} {k m:Nat} {v:Value} {xs:List Value} (h:A.ownsRow base e k v m xs) {r:Nat} {o:Obj} (hr:A.heap[r]?=some o) (ho:∀c z,o ≠ .cells c e z) (hg:A.grownBy B (some r)):B.ownsRow base e k v m xs:=
 dI h (fun j _ hj hv=>hg.block j hj (fun e'=>by
  injection e' with e';subst e'
  obtain ⟨cur,hc⟩:=gZ h hv.symm;rw [hr] at hc;injection hc with hc
  exact ho _ _ hc))
theorem kA {A:World} {base:Nat} {e:TypeId} {k m:Nat} {v:Value} {xs:List Value} (h:A.ownsRow base e k v m xs) {p:Addr} {c:Array Value} {t:TypeId} {z:Nat × Nat} (hr:A.heap[p.block]?=some (.cells c t z)) (ht:t≠e) (u:Value):(A.setCell p u).ownsRow base e k v m xs:=
 dI h (fun j _ _ hv=>bH A p u j (fun e'=>by
  subst e';obtain ⟨cur,hc⟩:=gZ h hv.symm;rw [hr] at hc;injection hc with hc;injection hc with _ hc
  exact ht hc))
theorem OwnI.obj {w:World} {b n:Nat} {sl:List Int} (h:OwnI w b n sl):∃es c,w.heap[b]?=some (.map es c):=by
 obtain ⟨D,⟨es,clock,h1,_⟩,_⟩:=h;exact ⟨_,_,h1⟩
theorem OwnI.ks {A B:World} {b n:Nat} {sl:List Int} (h:OwnI A b n sl) (hk:Ks A B):OwnI B b n sl:=by
 obtain ⟨es,c,ho⟩:=h.obj;exact h.block ((hk.same _ _ ho trivial).trans ho.symm)
theorem RowF.ks {A B:World} {b n:Nat} {T:TypeId} {F:Nat->Value} (h:RowF A b n T F) (hT:T≠43) (hk:Ks A B):RowF B b n T F:=hk.same _ _ h hT
theorem RowsI.ks {A B:World} {base blk n:Nat} {T:TypeId} {L:Nat->List Int} {F:Nat->Value} (h:RowsI A base blk n T L F) (hT:T≠43) (hI:3≠43) (hk:Ks A B):RowsI B base blk n T L F:=
 ⟨h.head.ks hT hk,fun j=>dI (h.rows j) (fun k _ _ hv=>by
   obtain ⟨cur,hc⟩:=gZ (h.rows j) hv.symm
   exact (hk.same _ _ hc hI).trans hc.symm),h.apart,h.lblk,bX h.low hk.size⟩
theorem RowsI.set_other {A:World} {base blk n:Nat} {T:TypeId} {L:Nat->List Int} {F:Nat->Value} (h:RowsI A base blk n T L F) {p:Addr} {c:Array Value} {t:TypeId} {z:Nat × Nat} (hr:A.heap[p.block]?=some (.cells c t z)) (h1:t≠T) (h2:t≠3) (u:Value):RowsI (A.setCell p u) base blk n T L F:=
 ⟨h.head.block (bH A p u blk (fun e=>by
   subst e;have:=h.head;unfold RowF at this;rw [hr] at this;injection this with this;injection this with _ this
   exact h1 this)),fun j=>kA (h.rows j) hr h2 u,h.apart,h.lblk,by simpa using h.low⟩
theorem RowF.set_other {A:World} {b n:Nat} {T:TypeId} {F:Nat->Value} (h:RowF A b n T F) {p:Addr} {c:Array Value} {t:TypeId} {z:Nat × Nat} (hr:A.heap[p.block]?=some (.cells c t z)) (h1:t≠T) (u:Value):RowF (A.setCell p u) b n T F:=
 h.block (bH A p u b (fun e=>by
  subst e;unfold RowF at h;rw [hr] at h;injection h with h;injection h with _ h
  exact h1 h))
theorem OwnI.set {A:World} {b n:Nat} {sl:List Int} (h:OwnI A b n sl) {p:Addr} {c:Array Value} {t:TypeId} {z:Nat × Nat} (hr:A.heap[p.block]?=some (.cells c t z)) (u:Value):OwnI (A.setCell p u) b n sl:=by
 obtain ⟨es,c',ho⟩:=h.obj
 exact h.block (bH A p u b (fun e=>by
  subst e
  rw [hr] at ho;cases ho))
def efF (EV:Nat->Option Nat × Int × Bool) (j:Nat):Value:=if j % 3=0 then .map (EV (j / 3)).1 else if j % 3=1 then .int .i64 (EV (j / 3)).2.1 else .bool (EV (j / 3)).2.2
def updE (EV:Nat->Option Nat × Int × Bool) (p:Nat) (x:Option Nat × Int × Bool):Nat->Option Nat × Int × Bool:=fun i=>if i=p then x else EV i
theorem xDV (EV:Nat->Option Nat × Int × Bool) (p:Nat) (m:Option Nat) (d:Int) (hd:Bool) (j:Nat):
 updF1 (updF1 (updF1 (efF EV) (p * 3) (.map m)) (p * 3+1) (.int .i64 d)) (p * 3+2) (.bool hd) j=efF (updE EV p (m,d,hd)) j:=by
 unfold updF1 efF updE;by_cases h2:j=p * 3+2
 ·subst h2;rw [bA rfl,aZ (by omega),aZ (by omega),bA (by omega)]
 rw [aZ h2];by_cases h1:j=p * 3+1
 ·subst h1;rw [bA rfl,aZ (by omega),bA (by omega),bA (by omega)]
 rw [aZ h1];by_cases h0:j=p * 3
 ·subst h0;rw [bA rfl,bA (by omega),bA (by omega)]
 rw [aZ h0];have:¬j / 3=p:=by omega
 rw [aZ this]
def lvF (MB:Nat->Nat) (m j:Nat):Value:=if j<m then .map (some (MB j)) else .map none
def updM (MB:Nat->Nat) (p b:Nat):Nat->Nat:=fun i=>if i=p then b else MB i
theorem xDI (MB:Nat->Nat) (m b j:Nat):updF1 (lvF MB m) m (.map (some b)) j=lvF (updM MB m b) (m+1) j:=by
 unfold updF1 lvF updM;by_cases h:j=m
 ·subst h;rw [bA rfl,bA (by omega),bA rfl]
 ·rw [aZ h];by_cases h2:j<m
  ·rw [bA h2,bA (by omega),aZ h]
  ·rw [aZ h2,aZ (by omega)]
structure LcW (b:Bdy) (bh:BH) (w:World) (n b0 b1 b2 b3:Nat) (E:Nat->List Int) (F:Nat->Value) (EV:Nat->Option Nat × Int × Bool) (m:Nat) (L:Int->List Int) (MB:Nat->Nat) (W:World):Prop where
 box:W.heap[w.heap.size]?=some (.cells ((bdH b bh [])).toArray 28 (0,0))
 bef:RowsI W b0 b1 n 34 E F
 eff:RowF W b2 (n * 3) 77 (efF EV)
 liv:RowF W b3 n 75 (lvF MB m)
 maps:∀j,j<m->OwnI W (MB j) 1000000 (L j)
 apart:∀i j,i<m->j<m->MB i=MB j->i=j
 low:Below w.heap.size w W
 lts:w.heap.size<b1/\w.heap.size<b2/\w.heap.size<b3
 hi:∀j,j<m->w.heap.size<MB j
theorem AtR.ef {N:Prop} {U:List Int} {D:Option Int} {w w':World} {e':Ending} (h:AtR N U D w e' w') (hN:¬N):EfR U D w e' w':=h.elim id (fun g=>absurd g.1 hN)
section
variable {b:Bdy} {bh:BH} {w:World} {n b0 b1 b2 b3:Nat} {E:Nat->List Int} {F:Nat->Value} {EV:Nat->Option Nat × Int × Bool} {m:Nat} {L:Int->List Int} {MB:Nat->Nat} {W W':World}
theorem LcW.ks (h:LcW b bh w n b0 b1 b2 b3 E F EV m L MB W) (hk:Ks W W') (hb:Below w.heap.size w W'):LcW b bh w n b0 b1 b2 b3 E F EV m L MB W':=
 ⟨hk.same _ _ h.box (show 28≠43 by decide),h.bef.ks (by decide) (by decide) hk,h.eff.ks (by decide) hk,h.liv.ks (by decide) hk,fun j hj=>(h.maps j hj).ks hk,h.apart,hb,h.lts,h.hi⟩
theorem LcW.keep (h:LcW b bh w n b0 b1 b2 b3 E F EV m L MB W) (hb:Below W.heap.size W W'):LcW b bh w n b0 b1 b2 b3 E F EV m L MB W':=
 h.ks (.of_below hb) (h.low.trans (hb.mono h.low.size))
theorem LcW.cell (h:LcW b bh w n b0 b1 b2 b3 E F EV m L MB W) (i:Nat) (u:Value) (hi:([Value.string b.name,.slice bh.A1 b.regions.length bh.c1,.slice bh.A2 b.outl.length bh.c2,.slice bh.A3 b.types.length bh.c3,.slice bh.A4 b.locals.length bh.c4,.int .i64 b.args,.slice bh.A5 b.blocks.length bh.c5])[i]?=some u):W.cell? ⟨w.heap.size,i,none⟩=some u:=by
 have:([Value.string b.name,.slice bh.A1 b.regions.length bh.c1,.slice bh.A2 b.outl.length bh.c2,.slice bh.A3 b.types.length bh.c3,.slice bh.A4 b.locals.length bh.c4,.int .i64 b.args,.slice bh.A5 b.blocks.length bh.c5]).toArray[i]?=some u:=by simpa using hi
 simp only [World.cell?,h.box];exact this
theorem LcW.grow (h:LcW b bh w n b0 b1 b2 b3 E F EV m L MB W) {base:Nat} {v:Value} {k:Nat} {xs:List Value} (ho:W.ownsRow base 43 2 v k xs) (hg:W.grownBy W' v.ownBlock) (hbase:w.heap.size<=base):LcW b bh w n b0 b1 b2 b3 E F EV m L MB W':=
 h.ks (.grow ho hg) (h.low.grown hg h.low.size (fun g hge=>by have:=(ho.lt g hge).1;omega))
theorem LcW.iter (h:LcW b bh w n b0 b1 b2 b3 E F EV m L MB W) {r:Nat} {m' s t c} (hr:W.heap[r]?=some (.mapIter m' s t c)) (hg:W.grownBy W' (some r)) (hlo:w.heap.size<=r):LcW b bh w n b0 b1 b2 b3 E F EV m L MB W':=
 h.ks (.iter hr hg) (h.low.grown hg h.low.size (fun g hge=>by injection hge with hge;omega))
theorem LcW.lset (h:LcW b bh w n b0 b1 b2 b3 E F EV m L MB W) (hL:L m=[]) {g:Nat} (ho:OwnI W g 1000000 []) (hne:∀j,j<m->MB j≠g) (hg:w.heap.size<g):LcW b bh w n b0 b1 b2 b3 E F EV (m+1) L (updM MB m g) (W.setCell ⟨b3,m,none⟩ (.map (some g))):=by
 have hr:W.heap[b3]?=some (.cells (rowA n (lvF MB m)) 75 (0,0)):=h.liv;have hk:∀k,k≠b3->(W.setCell ⟨b3,m,none⟩ (.map (some g))).heap[k]?=W.heap[k]?:=fun k hk=>bH W ⟨b3,m,none⟩ _ k hk
 have h3:=h.lts;refine ⟨(hk _ (by omega)).trans h.box,h.bef.set_other (p:=⟨b3,m,none⟩) hr (by decide) (by decide) _,h.eff.set_other (p:=⟨b3,m,none⟩) hr (by decide) _,(h.liv.set m _).congr (fun j _=>xDI MB m g j),fun j hj=>?_,fun i j hi hj e=>?_,h.low.setCell (by simp;omega) _,h.lts,fun j hj=>?_⟩
 ·unfold updM;by_cases e:j=m
  ·subst e;rw [bA rfl,hL];exact ho.set (p:=⟨b3,j,none⟩) hr _
  ·rw [aZ e];exact (h.maps j (by omega)).set (p:=⟨b3,m,none⟩) hr _
 ·unfold updM at e;by_cases e1:i=m <;> by_cases e2:j=m
  ·omega
  ·rw [bA e1,aZ e2] at e;exact absurd e.symm (hne j (by omega))
  ·rw [aZ e1,bA e2] at e;exact absurd e (hne i (by omega))
  ·rw [aZ e1,aZ e2] at e;exact h.apart i j (by omega) (by omega) e
 ·unfold updM;by_cases e:j=m
  ·rw [bA e];exact hg
  ·rw [aZ e];exact h.hi j (by omega)
theorem LcW.eset (h:LcW b bh w n b0 b1 b2 b3 E F EV m L MB W) (p:Nat) (mp:Option Nat) (d:Int) (hd:Bool):LcW b bh w n b0 b1 b2 b3 E F (updE EV p (mp,d,hd)) m L MB (((W.setCell ⟨b2,p * 3,none⟩ (.map mp)).setCell ⟨b2,p * 3+1,none⟩ (.int .i64 d)).setCell ⟨b2,p * 3+2,none⟩ (.bool hd)):=by
 have key:∀(W:World) (G:Nat->Value) (j:Nat) (u:Value),W.heap[w.heap.size]?=some (.cells ((bdH b bh [])).toArray 28 (0,0))/\RowsI W b0 b1 n 34 E F/\RowF W b2 (n * 3) 77 G/\RowF W b3 n 75 (lvF MB m)/\(∀j,j<m->OwnI W (MB j) 1000000 (L j))/\Below w.heap.size w W->
  (W.setCell ⟨b2,j,none⟩ u).heap[w.heap.size]?=some (.cells ((bdH b bh [])).toArray 28 (0,0))/\RowsI (W.setCell ⟨b2,j,none⟩ u) b0 b1 n 34 E F/\RowF (W.setCell ⟨b2,j,none⟩ u) b2 (n * 3) 77 (updF1 G j u)/\RowF (W.setCell ⟨b2,j,none⟩ u) b3 n 75 (lvF MB m)/\(∀i,i<m->OwnI (W.setCell ⟨b2,j,none⟩ u) (MB i) 1000000 (L i))/\Below w.heap.size w (W.setCell ⟨b2,j,none⟩ u):=by
  rintro W G j u ⟨x0,x1,x2,x3,x4,x5⟩;have hr:W.heap[b2]?=some (.cells (rowA (n * 3) G) 77 (0,0)):=x2;have h3:=h.lts;exact ⟨(bH W ⟨b2,j,none⟩ _ _ (by simp;omega)).trans x0,x1.set_other (p:=⟨b2,j,none⟩) hr (by decide) (by decide) _,x2.set j u,x3.set_other (p:=⟨b2,j,none⟩) hr (by decide) _,fun i hi=>(x4 i hi).set (p:=⟨b2,j,none⟩) hr _,x5.setCell (by simp;omega) _⟩
 obtain ⟨g0,g1,g2,g3,g4,g5⟩:=key _ _ (p * 3+2) (.bool hd) (key _ _ (p * 3+1) (.int .i64 d) (key _ _ (p * 3) (.map mp) ⟨h.box,h.bef,h.eff,h.liv,h.maps,h.low⟩));exact ⟨g0,g1,g2.congr (fun j _=>xDV EV p mp d hd j),g3,g4,h.apart,g5,h.lts,h.hi⟩
theorem LcW.put (h:LcW b bh w n b0 b1 b2 b3 E F EV m L MB W) {p:Nat} (hp:p<m) {x:Int} (hg:W.grownBy W' (some (MB p))) (ho:OwnI W' (MB p) 1000000 (x :: L p)):LcW b bh w n b0 b1 b2 b3 E F EV m (addL L p x) MB W':=by
 obtain ⟨es,c,hm⟩:=(h.maps p hp).obj;have hk:∀(k:Nat) (o:Obj),W.heap[k]?=some o->k≠MB p->W'.heap[k]?=some o:=fun k o a e=>(hg.block k (Array.getElem?_eq_some_iff.1 a).1 (fun e'=>by injection e' with e';exact e e')).trans a
 have hc:∀(k:Nat) (cs:Array Value) (t:TypeId) (z:Nat × Nat),W.heap[k]?=some (.cells cs t z)->W'.heap[k]?=some (.cells cs t z):=fun k cs t z a=>hk k _ a (fun e=>by subst e;rw [hm] at a;cases a)
 have h3:=h.lts;have h4:=h.hi p hp
 refine ⟨hc _ _ _ _ h.box,⟨hc _ _ _ _ h.bef.head,fun j=>dI (h.bef.rows j) (fun k _ _ hv=>by
  obtain ⟨cur,hcu⟩:=gZ (h.bef.rows j) hv.symm
  exact (hc _ _ _ _ hcu).trans hcu.symm),h.bef.apart,h.bef.lblk,bX h.bef.low hg.size⟩,hc _ _ _ _ h.eff,hc _ _ _ _ h.liv,fun j hj=>?_,h.apart,h.low.grown hg h.low.size (fun g hge=>by injection hge with hge;omega),h.lts,h.hi⟩
 unfold addL;by_cases e:(j:Int)=(p:Int)
 ·rw [bA e];obtain rfl:j=p:=by omega
  exact ho
 ·rw [aZ e];obtain ⟨es',c',hm'⟩:=(h.maps j hj).obj;exact (h.maps j hj).block ((hk _ _ hm' (fun e'=>e (by rw [h.apart j p hj hp e']))).trans hm'.symm)
theorem LcW.eset_map (h:LcW b bh w n b0 b1 b2 b3 E F EV m L MB W) {x k:Nat} {sl:List Int} (ho:OwnI W x k sl) (p:Nat) (u0 u1 u2:Value):OwnI (((W.setCell ⟨b2,p * 3,none⟩ u0).setCell ⟨b2,p * 3+1,none⟩ u1).setCell ⟨b2,p * 3+2,none⟩ u2) x k sl:=by
 have hr:W.heap[b2]?=some (.cells (rowA (n * 3) (efF EV)) 77 (0,0)):=h.eff;have h1:=(h.eff.set (p * 3) u0);have h2:=(h1.set (p * 3+1) u1);exact ((ho.set (p:=⟨b2,p * 3,none⟩) hr u0).set (p:=⟨b2,p * 3+1,none⟩) h1 u1).set (p:=⟨b2,p * 3+2,none⟩) h2 u2
theorem LcW.eset_row (h:LcW b bh w n b0 b1 b2 b3 E F EV m L MB W) {base k:Nat} {v:Value} {xs:List Value} (ho:W.ownsRow base 43 2 v k xs) (p:Nat) (u0 u1 u2:Value):(((W.setCell ⟨b2,p * 3,none⟩ u0).setCell ⟨b2,p * 3+1,none⟩ u1).setCell ⟨b2,p * 3+2,none⟩ u2).ownsRow base 43 2 v k xs:=by
 have hr:W.heap[b2]?=some (.cells (rowA (n * 3) (efF EV)) 77 (0,0)):=h.eff;have h1:=(h.eff.set (p * 3) u0);have h2:=(h1.set (p * 3+1) u1);exact kA (p:=⟨b2,p * 3+2,none⟩) (kA (p:=⟨b2,p * 3+1,none⟩) (kA (p:=⟨b2,p * 3,none⟩) ho hr (by decide) u0) h1 (by decide) u1) h2 (by decide) u2
theorem LcW.lset_map (h:LcW b bh w n b0 b1 b2 b3 E F EV m L MB W) {x k:Nat} {sl:List Int} (ho:OwnI W x k sl) (p:Nat) (u:Value):OwnI (W.setCell ⟨b3,p,none⟩ u) x k sl:=by
 have hr:W.heap[b3]?=some (.cells (rowA n (lvF MB m)) 75 (0,0)):=h.liv;exact ho.set (p:=⟨b3,p,none⟩) hr u
theorem LcW.lset_row (h:LcW b bh w n b0 b1 b2 b3 E F EV m L MB W) {base k:Nat} {v:Value} {xs:List Value} (ho:W.ownsRow base 43 2 v k xs) (p:Nat) (u:Value):(W.setCell ⟨b3,p,none⟩ u).ownsRow base 43 2 v k xs:=by
 have hr:W.heap[b3]?=some (.cells (rowA n (lvF MB m)) 75 (0,0)):=h.liv;exact kA (p:=⟨b3,p,none⟩) ho hr (by decide) u
theorem LcW.put_row (h:LcW b bh w n b0 b1 b2 b3 E F EV m L MB W) {p:Nat} (hp:p<m) (hg:W.grownBy W' (some (MB p))) {base k:Nat} {v:Value} {xs:List Value} (ho:W.ownsRow base 43 2 v k xs):W'.ownsRow base 43 2 v k xs:=by
 obtain ⟨es,c,hm⟩:=(h.maps p hp).obj;exact nR ho hm (fun _ _ e=>by cases e) hg
theorem LcW.lt2 (h:LcW b bh w n b0 b1 b2 b3 E F EV m L MB W):b2<W.heap.size/\b3<W.heap.size/\b1<W.heap.size/\w.heap.size<W.heap.size:=⟨h.eff.lt,h.liv.lt,h.bef.head.lt,(Array.getElem?_eq_some_iff.1 h.box).1⟩
theorem LcW.frozen2 (h:LcW b bh w n b0 b1 b2 b3 E F EV m L MB W) (k:Nat):W.frozen? ⟨b2,k,none⟩=false:=h.eff.frozen k
theorem LcW.frozen3 (h:LcW b bh w n b0 b1 b2 b3 E F EV m L MB W) (k:Nat):W.frozen? ⟨b3,k,none⟩=false:=h.liv.frozen k
theorem efF0 (EV:Nat->Option Nat × Int × Bool) (p:Nat):efF EV (p * 3) = .map (EV p).1:=by unfold efF;rw [bA (by omega),show p * 3 / 3=p by omega]
theorem efF1 (EV:Nat->Option Nat × Int × Bool) (p:Nat):efF EV (p * 3+1) = .int .i64 (EV p).2.1:=by unfold efF;rw [aZ (by omega),bA (by omega),show (p * 3+1) / 3=p by omega]
theorem efF2 (EV:Nat->Option Nat × Int × Bool) (p:Nat):efF EV (p * 3+2) = .bool (EV p).2.2:=by unfold efF;rw [aZ (by omega),aZ (by omega),show (p * 3+2) / 3=p by omega]
theorem LcW.eff3 (h:LcW b bh w n b0 b1 b2 b3 E F EV m L MB W) {p:Nat} (hp:p<n):W.cell? ⟨b2,p * 3,none⟩=some (.map (EV p).1)/\W.cell? ⟨b2,p * 3+1,none⟩=some (.int .i64 (EV p).2.1)/\W.cell? ⟨b2,p * 3+2,none⟩=some (.bool (EV p).2.2):=
 ⟨by rw [h.eff.cell (by omega),efF0],by rw [h.eff.cell (by omega),efF1],by rw [h.eff.cell (by omega),efF2]⟩
theorem LcW.bef_ (h:LcW b bh w n b0 b1 b2 b3 E F EV m L MB W) {p:Nat} (hp:p<n):∃A c,F p = .slice A (E p).length c/\W.cell? ⟨b1,p,none⟩=some (.slice A (E p).length c):=by
 obtain ⟨A,c,e⟩:=dE (h.bef.rows p);exact ⟨A,c,e,by rw [h.bef.head.cell hp,e]⟩
theorem LcW.befS (h:LcW b bh w n b0 b1 b2 b3 E F EV m L MB W) {p:Nat} {A:Option Addr} {c:Nat} (e:F p = .slice A (E p).length c):Slc 1 RInt W A c (E p):=by
 obtain ⟨A',c',e',hs,_⟩:=fD (R:=RInt) (enc:=Value.int .i64) (fun _ _ _ _ _ h=>h) (h.bef.rows p) rfl;rw [e] at e';injection e' with e1 _ e2
 subst e1 e2;exact hs
theorem LcW.livC (h:LcW b bh w n b0 b1 b2 b3 E F EV m L MB W) {p:Nat} (hp:p<m) (hn:p<n):W.cell? ⟨b3,p,none⟩=some (.map (some (MB p))):=by
 rw [h.liv.cell hn];unfold lvF;rw [bA hp]
end
theorem Eb.prs {W0 W:World} {lc:Nat} (h:Eb W0 lc W) {n:Nat} {T:TypeId} {F:Nat->Value} (hv:RowF W0 lc n T F) (hF:∀j q x,F j ≠ .int q x) {A:Option Addr} {c:Nat} {xs:List (Int × Int)} (hs:Slc 2 RPr W0 A c xs):Slc 2 RPr W A c xs:=by
 refine ⟨fun hn=>?_,hs.le,hs.big⟩;obtain ⟨b,off,hA,hlt,hx⟩:=hs.sl hn;refine ⟨b,off,hA,bN hlt h.size,fun i x hix=>?_⟩;have hc:=hx i x hix
 have hne:b≠lc:=fun e=>by
  subst e;have h1:=hc.1;unfold RowF rowA at hv;unfold World.cell? at h1;rw [hv] at h1;simp only at h1;obtain ⟨hl,he⟩:=Array.getElem?_eq_some_iff.1 h1;rw [Array.getElem_map] at he;exact hF _ _ _ he
 exact ⟨(World.cell?_of_block (a:=⟨b,off+i * 2,none⟩) (h.keep b hlt hne)).trans hc.1,(World.cell?_of_block (a:=⟨b,off+i * 2+1,none⟩) (h.keep b hlt hne)).trans hc.2⟩
theorem RowsI.nil_base {w:World} {base blk n:Nat} {T:TypeId} (h:RowsI w base blk n T (fun _=>[]) (fun _=> .slice none 0 0)):RowsI w w.heap.size blk n T (fun _=>[]) (fun _=> .slice none 0 0):=
 ⟨h.head,fun _=>wF _ _ _ _,h.apart,h.head.lt,aY _⟩
def TF (tr:List Tr) (j:Nat):Value:=match tr[j]? with | some t=>encTr t | none=> .slice none 0 0
theorem xED (tr:List Tr) (t:Tr) (j:Nat):updF1 (TF tr) tr.length (encTr t) j=TF (tr ++ [t]) j:=by
 unfold updF1 TF;by_cases h:j=tr.length
 ·subst h;rw [bA rfl];simp
 ·rw [aZ h];by_cases h2:j<tr.length
  ·rw [List.getElem?_append_left h2]
  ·rw [cE (by omega),cE (by simp;omega)]
theorem xCO {W:World} {A:Option Addr} {c:Nat} {xs:List Int} (h:Slc 1 RInt W A c xs) {g:Nat} (hne:∀a,A=some a->g<a.block) (j:Nat) (v:Value):Slc 1 RInt (W.setCell ⟨g,j,none⟩ v) A c xs:=by
 refine ⟨fun hn=>?_,h.le,h.big⟩;obtain ⟨b,off,hA,hlt,hx⟩:=h.sl hn;refine ⟨b,off,hA,by simpa using hlt,fun i x hix=>?_⟩;have hb:=hne _ hA;simp only at hb;exact (World.cell?_of_block (a:=⟨b,off+i * 1,none⟩) (bH W ⟨g,j,none⟩ v b (by simp;omega))).trans (hx i x hix)
theorem xCQ {W:World} {g n:Nat} {T:TypeId} {tr:List Tr} (h:RowF W g n T (TF tr)) (hl:tr.length=n) (hn:n<=9223372036854775807) (hr:∀t∈tr,Slc 1 RInt W t.1 t.2.2 t.2.1):Slc 1 (RSl 1 RInt) W (some ⟨g,0,none⟩) n (tr.map (·.2.1)):=by
 refine zH (c:=n) ⟨fun _=>⟨g,0,rfl,h.lt,fun i t hi=>?_⟩,by omega,hn⟩ hr;have hi2:=(List.getElem?_eq_some_iff.1 hi).1;have:=h.cell (j:=i) (by omega);unfold TF at this;rw [hi] at this;unfold RTr;simpa using this
end
section
open Go Go.RowKit Go.Maps
attribute [local irreducible] Calls
theorem xAP:(Tryz.prog.info? 75).map (fun i=>(i.zero,i.size,i.bytes))=some (some (.map none),1,8):=by kernel_rfl
theorem xDQ:(Tryz.prog.info? 77).map (fun i=>(i.zero,i.size,i.bytes))=some (some (.agg #[.map none,.int .i64 0,.bool false]),3,24):=by kernel_rfl
theorem kG (n:Nat) (hn:n<=1000) (W:World):(Instr.makeSlice 45 (.int .i64 (n:Int)) (.int .i64 (n:Int))).run Tryz.prog W = .ok (.slice (some ⟨W.heap.size,0,none⟩) n n) (W.alloc (.cells (rowA n (fun _=> .slice none 0 0)) 34)):=by
 obtain ⟨ib,hib,hbz,hbs,hby⟩:=info_parts xFB;have:=gH (P:=Tryz.prog) W 45 34 ib (.slice none 0 0) #[.slice none 0 0] 1 Tryz.underlying45 hib hbz rfl hbs n (by rw [hby];omega) (by omega);rw [this,Nat.mul_one];congr 4
 funext j
 simp [Nat.mod_one]
theorem wP (n:Nat) (hn:n<=1000) (W:World):(Instr.makeSlice 104 (.int .i64 (n:Int)) (.int .i64 (n:Int))).run Tryz.prog W = .ok (.slice (some ⟨W.heap.size,0,none⟩) n n) (W.alloc (.cells (rowA n (lvF (fun _=>0) 0)) 75)):=by
 obtain ⟨ib,hib,hbz,hbs,hby⟩:=info_parts xAP;have:=gH (P:=Tryz.prog) W 104 75 ib (.map none) #[.map none] 1 Tryz.underlying104 hib hbz rfl hbs n (by rw [hby];omega) (by omega);rw [this,Nat.mul_one];congr 4
 funext j
 simp [Nat.mod_one,lvF]
theorem nW (n:Nat) (hn:n<=1000) (W:World):(Instr.makeSlice 103 (.int .i64 (n:Int)) (.int .i64 (n:Int))).run Tryz.prog W = .ok (.slice (some ⟨W.heap.size,0,none⟩) n n) (W.alloc (.cells (rowA (n * 3) (efF (fun _=>(none,0,false)))) 77)):=by
 obtain ⟨ib,hib,hbz,hbs,hby⟩:=info_parts xDQ;have:=gH (P:=Tryz.prog) W 103 77 ib (.agg #[.map none,.int .i64 0,.bool false]) #[.map none,.int .i64 0,.bool false] 3 Tryz.underlying103 hib hbz rfl hbs n (by rw [hby];omega) (by omega);rw [this];congr 4
 funext j
 unfold efF;rcases (show j % 3=0\/j % 3=1\/j % 3=2 by omega) with h | h | h
 ·simp [h]
 ·simp [h]
 ·simp [h]
def Row3 (n:Nat) (w:World) (g2 g3:Nat) (W:World):Prop:=
 RowF W g2 (n * 3) 77 (efF (fun _=>(none,0,false)))/\RowF W g3 n 75 (lvF (fun _=>0) 0)/\Below w.heap.size w W/\w.heap.size<=g2/\w.heap.size<=g3
theorem xEQ (n:Nat) (w:World):Row3 n w w.heap.size (w.heap.size+1) ((w.alloc (.cells (rowA (n * 3) (efF (fun _=>(none,0,false)))) 77)).alloc (.cells (rowA n (lvF (fun _=>0) 0)) 75)):=by
 have h1:=RowF.new w (n * 3) 77 (efF (fun _=>(none,0,false)));have h2:=RowF.new (w.alloc (.cells (rowA (n * 3) (efF (fun _=>(none,0,false)))) 77)) n 75 (lvF (fun _=>0) 0);rw [bI] at h2;exact ⟨h1.block (((aX _ _).alloc (aY _) _).block _ h1.lt),h2,((aX _ _).alloc (aY _) _).alloc (by simp) _,aY _,by omega⟩
theorem xEP (n:Nat) (w:World):Row3 n w (w.heap.size+1) w.heap.size ((w.alloc (.cells (rowA n (lvF (fun _=>0) 0)) 75)).alloc (.cells (rowA (n * 3) (efF (fun _=>(none,0,false)))) 77)):=by
 have h1:=RowF.new w n 75 (lvF (fun _=>0) 0);have h2:=RowF.new (w.alloc (.cells (rowA n (lvF (fun _=>0) 0)) 75)) (n * 3) 77 (efF (fun _=>(none,0,false)));rw [bI] at h2;exact ⟨h2,h1.block (((aX _ _).alloc (aY _) _).block _ h1.lt),((aX _ _).alloc (aY _) _).alloc (by simp) _,by omega,aY _⟩
theorem xAM {M n t k k2:Nat} (ht:t+1<=M) (hk:k2<=k+n):msW M n (t+1) k2<msW M n t (k+1):=by
 unfold msW;have:(M - t) * (n+1)=(M - (t+1)) * (n+1)+(n+1):=by rw [<- Nat.succ_mul];congr 1;omega
 omega
theorem Row3.drew {n:Nat} {w:World} {a b:Nat} {W:World} (h:Row3 n w a b W):Row3 n w a b W.drew:=⟨h.1,h.2.1,h.2.2.1.drew,h.2.2.2⟩
theorem yI {n u t k:Nat} (hn:n<=1000) (hu:u<=1000) (ht:t<=n * u) (hk:k<=(n+1) * u+t * n):k<=2000000000:=by
 have h1:n * u<=1000 * 1000:=Nat.mul_le_mul hn hu;have h2:(n+1) * u<=1001 * 1000:=Nat.mul_le_mul (by omega) hu;have h3:t * n<=1000000 * 1000:=Nat.mul_le_mul (by omega) hn;omega
def EvOk (bs:List Blk) (EV:Nat->Option Nat × Int × Bool) (m:Nat):Prop:=∀p,p<m->dfP bs (p:Int)=if (EV p).2.2 then some (EV p).2.1 else none
theorem EvOk.step {bs:List Blk} {EV:Nat->Option Nat × Int × Bool} {m:Nat} (h:EvOk bs EV m) (mp:Option Nat) (d:Int) (hd:Bool) (e:dfP bs (m:Int)=if hd then some d else none):EvOk bs (updE EV m (mp,d,hd)) (m+1):=fun p hp=>by
 unfold updE;by_cases h2:p=m
 ·subst h2;rw [bA rfl];exact e
 ·rw [aZ h2];exact h p (by omega)
theorem RngI.grow {W W':World} {mb r k:Nat} {sl:List Int} {left:Int->Bool} {cnt:Nat} (h:RngI W mb r k sl left cnt) {base m:Nat} {v:Value} {xs:List Value} (ho:W.ownsRow base 43 2 v m xs) (hg:W.grownBy W' v.ownBlock):RngI W' mb r k sl left cnt:=by
 obtain ⟨a1,a2,a3,a4,hi⟩:=h.iter;obtain ⟨c1,c2,hm⟩:=h.mobj;refine h.kept (hg.block _ h.lt.2.1 (fun e=>?_)) (hg.block _ h.lt.1 (fun e=>?_))
 ·obtain ⟨cur,hc⟩:=gZ ho e.symm;rw [hm] at hc;cases hc
 ·obtain ⟨cur,hc⟩:=gZ ho e.symm;rw [hi] at hc;cases hc
theorem xAA {W:World} {base:Nat} {v:Value} {wk:List (Int × Int)} {p x:Int} (h:W.ownsRow base 43 2 v (wk ++ [(p,x)]).length ((wk ++ [(p,x)]).flatMap prC)):
 ∃g cap,v = .slice (some ⟨g,0,none⟩) (wk.length+1) cap/\wk.length+1<=cap/\cap<=maxLen/\W.cell? ⟨g,wk.length * 2,none⟩=some (.int .i64 p)/\W.cell? ⟨g,wk.length * 2+1,none⟩=some (.int .i64 x)/\W.ownsRow base 43 2 (.slice (some ⟨g,0,none⟩) wk.length cap) wk.length (wk.flatMap prC):=by
 rw [bB,cG,cA] at h
 have hl:(wk.flatMap prC).length=wk.length * 2:=by
  have:=h.1;simp [prC] at this ⊢;omega
 have h0:=h;rcases h.2 with ⟨_,hz⟩ | ⟨g,cap,cur,rfl,hb,hh,hn,hm,hs,ht⟩
 ·omega
 have c0:=h0.cells (g:=g) rfl (wk.length * 2) (.int .i64 p) (by rw [List.getElem?_append_right (by omega),hl];simp [prC]);have c1:=h0.cells (g:=g) rfl (wk.length * 2+1) (.int .i64 x) (by rw [List.getElem?_append_right (by omega),hl,show wk.length * 2+1 - wk.length * 2=1 by omega];simp [prC]);rw [add0] at c0 c1;exact ⟨g,cap,rfl,hn,hm,c0,c1,ownsRow_pop hl h0⟩
theorem jY {w:World} {base:Nat} {v:Value} {s:List (Int × Int)} {x:Int × Int} (h:w.ownsRow base 43 2 v (s.length+1) (s.flatMap prC ++ prC x)):w.ownsRow base 43 2 v (s ++ [x]).length ((s ++ [x]).flatMap prC):=by
 rw [bB,cA];simpa using h
theorem mU (w:World) {ops:Array Oper} {rest:List Oper} {o:Oper} {a:Act} {Q:Exit->Act->World->Prop} (hg:o.guard=none) (it:Operand) (hop:o.op=Op.next it false) (b r n:Nat) (sl:List Int) (left:Int->Bool) (cnt:Nat)
 (hit:a.eval it = .pointer (some ⟨r,0,none⟩)) (h:RngI w b r n sl left cnt)
 (hDone:(∀x,left x=false)->wpList Tryz.prog ops Q rest (a.put o.dst (.tuple #[.bool false])) w)
 (hMore:∀(x:Int) (c:Value) (w':World) (cnt':Nat),(Lit.int .i64 x).wf=true->left x=true->x∈sl->RngI w' b r n sl (fun z=>left z && decide (z≠x)) cnt'->cnt'<cnt->
   w.grownBy w' (some r)->w'.heap.size=w.heap.size->(Instr.entry (.pointer (some ⟨r,0,none⟩))).run Tryz.prog w' = .ok (.tuple #[.int .i64 x,c]) w'->wpList Tryz.prog ops Q rest (a.put o.dst (.tuple #[.bool true,.int .i64 x,c])) w'):
 wpList Tryz.prog ops Q (o :: rest) a w:=
 mV w hg it hop b r n sl left cnt hit h hDone (fun x c w' cnt'=>hMore x (.bool c) w' cnt')
def CutM (b:Bdy) (bh:BH) (w:World) (n b0 b1 g2 g3:Nat) (BE:Nat->List Int) (F:Nat->Value) (EV:Nat->Option Nat × Int × Bool) (m:Nat) (MB:Nat->Nat) (v:Value) (wk:List (Int × Int)) (W:World):Prop:=
 ∃(mb g:Nat) (sl:List Int) (d:Int) (hd:Bool),LcW b bh w n b0 b1 g2 g3 BE F (updE EV m (some mb,d,hd)) (m+1) (fun _=>[]) (updM MB m g) W/\EvOk b.blocks (updE EV m (some mb,d,hd)) (m+1)/\W.ownsRow b0 43 2 v wk.length (wk.flatMap prC)/\OwnI W mb 1000000 sl/\(∀z,z∈sl↔z∈usP b.blocks (m:Int))/\w.heap.size<=mb
theorem xAX {b:Bdy} {bh:BH} {w:World} {n b0 b1 g2 g3:Nat} {BE:Nat->List Int} {F:Nat->Value} {EV:Nat->Option Nat × Int × Bool} {m:Nat} {MB:Nat->Nat} {v:Value} {wk:List (Int × Int)} {W:World}
 (h:LcW b bh w n b0 b1 g2 g3 BE F EV m (fun _=>[]) MB W) (hE:EvOk b.blocks EV m) (hw:W.ownsRow b0 43 2 v wk.length (wk.flatMap prC)) {mb:Nat} {sl:List Int} {d:Int} {hd:Bool} (ho:OwnI W mb 1000000 sl) (hm:∀z,z∈sl↔z∈usP b.blocks (m:Int)) (hdd:dfP b.blocks (m:Int)=if hd then some d else none) (hmb:w.heap.size<=mb):
 CutM b bh w n b0 b1 g2 g3 BE F EV m MB v wk (((((W.setCell ⟨g2,m * 3,none⟩ (.map (some mb))).setCell ⟨g2,m * 3+1,none⟩ (.int .i64 d)).setCell ⟨g2,m * 3+2,none⟩ (.bool hd)).setCell ⟨g3,m,none⟩ (.map (some W.heap.size))).alloc (.map #[] 0)):=by
 have h1:=h.eset m (some mb) d hd;have w1:=h.eset_row hw m (.map (some mb)) (.int .i64 d) (.bool hd);have o1:=h.eset_map ho m (.map (some mb)) (.int .i64 d) (.bool hd);have hsz:(((W.setCell ⟨g2,m * 3,none⟩ (.map (some mb))).setCell ⟨g2,m * 3+1,none⟩ (.int .i64 d)).setCell ⟨g2,m * 3+2,none⟩ (.bool hd)).heap.size=W.heap.size:=by simp
 have hlt:=h.lt2;generalize ((W.setCell ⟨g2,m * 3,none⟩ (.map (some mb))).setCell ⟨g2,m * 3+1,none⟩ (.int .i64 d)).setCell ⟨g2,m * 3+2,none⟩ (.bool hd)=A at *;have e:=World.setCell_alloc_past (w:=A) (.map #[] 0) g3 m (.map (some W.heap.size)) (by omega);rw [<- e];have h2:=h1.keep (alF A (.map #[] 0));have om:=(OwnI.made A).mono (m:=1000000) (by omega);rw [hsz] at om
 have h3:=h2.lset rfl om (fun j hj e=>by
  have:=(h.maps j hj).lt
  omega) (by omega)
 exact ⟨mb,W.heap.size,sl,d,hd,h3,hE.step _ _ _ hdd,h2.lset_row (w1.alloc _) m _,h2.lset_map (o1.alloc _) m _,hm,hmb⟩
theorem LcW.ne23 {b:Bdy} {bh:BH} {w:World} {n b0 b1 g2 g3:Nat} {BE:Nat->List Int} {F:Nat->Value} {EV:Nat->Option Nat × Int × Bool} {m:Nat} {L:Int->List Int} {MB:Nat->Nat} {W:World} (h:LcW b bh w n b0 b1 g2 g3 BE F EV m L MB W):g2≠g3:=fun e=>by
 subst e;have h1:=h.eff;have h2:=h.liv;unfold RowF at h1 h2;rw [h1] at h2;injection h2 with h2
 injection h2 with _ h2
 exact absurd h2 (by decide)
theorem qA (b:Bdy) (bh:BH) (w:World) (U:List Int) (H:BdAt w b bh) (hc:cntB b.blocks<=1000) (hl:b.blocks.length<=1000000) (ht:∀x∈b.blocks,x.term.targets.length<=1000000000000) (hu:∀p,∀z∈usP b.blocks p,z∈U/\Sml z) (hU:U.length<=1000):
 Calls Tryz.prog 21 #[.agg (bdC b bh).toArray] w fun e' w'=>∃A c ll,e' = .returned (.slice A ll.length c)/\ll.length=cntB b.blocks/\(∀(k:Nat) (l:List Int),ll[k]?=some l->Srt l (fun z=>Lv b.blocks z (k:Int)))/\Slc 1 (RSl 1 RInt) w' A c ll/\Below w.heap.size w w':=by
 have HC:=aF (fun (W:World) (hb:Below w.heap.size w W)=>zZ b bh W (H.keep hb) (by omega) hl);have HG:=aF (fun (W:World) (hb:Below w.heap.size w W)=>xE b bh W (H.keep hb) (by omega) hl ht);have HAT:=aF (fun (W:World) (hb:Below w.heap.size w W) (p:Int) hp=>xX b bh p W (H.keep hb) (by omega) hp (fun z hz=>(hu p z hz).2));have HY:=aF (cQ w [Value.string b.name,.slice bh.A1 b.regions.length bh.c1,.slice bh.A2 b.outl.length bh.c2,.slice bh.A3 b.types.length bh.c3,.slice bh.A4 b.locals.length bh.c4,.int .i64 b.args,.slice bh.A5 b.blocks.length bh.c5] 28);have HUU:=aF hu;obtain ⟨i0,hi0,hz0,hz1,hz2⟩:=info_parts dU;obtain ⟨q0,hq0,hq1,hq2,hq3⟩:=info_parts xBO;have hmm:= @run_makeMap Tryz.prog;clear H ht hu hl;unfold bdC at *;obtain ⟨n,hn⟩:∃n,cntB b.blocks=n:=⟨_,rfl⟩;have HNE:=aF hn;rw [hn] at hc ⊢;rw [hn] at HC;have hmk1:=kG n hc;clear hn;obtain ⟨W0,hW0⟩:∃W,w.alloc (.cells ([Value.string b.name,.slice bh.A1 b.regions.length bh.c1,.slice bh.A2 b.outl.length bh.c2,.slice bh.A3 b.types.length bh.c3,.slice bh.A4 b.locals.length bh.c4,.int .i64 b.args,.slice bh.A5 b.blocks.length bh.c5]).toArray 28)=W:=⟨_,rfl⟩;have hbox:W0.heap[w.heap.size]?=some (.cells ((bdH b bh [])).toArray 28 (0,0)):=by rw [<- hW0];exact heap_alloc_new _ _
 have hb0:Below w.heap.size w W0:=by rw [<- hW0];exact (aX _ _).alloc (aY _) _
 have HBX:=aF hbox;have HB0:=aF hb0;have yy:=fun i v h=>dS hbox i v h
 have y0:=yy 0 _ rfl;have y1:=yy 1 _ rfl;have y2:=yy 2 _ rfl;have y3:=yy 3 _ rfl;have y4:=yy 4 _ rfl;have y5:=yy 5 _ rfl;have y6:=yy 6 _ rfl;clear hbox hb0 HY yy;go_enter Tryz.func21,Tryz.ntmps21
 go_wp2_with fail
 go_step3
 go_wp2_with (first
  | (go_at_call 53;refine (HG.out _ (HB1.out.alloc HB1.out.size _)).mono ?_;rintro e' w3 ⟨A,c,E,rfl,hE,hs3,hb3⟩;clear y0 y1 y2 y3 y4 y5 y6)
  | (go_at_call 52;refine (HC.out _ HB0.out).mono ?_;rintro e' w1 ⟨rfl,hb1⟩;have HB1:=aF (HB0.out.trans (hb1.mono HB0.out.size));have HBX1:=aF ((hb1.block _ (Array.getElem?_eq_some_iff.1 HBX.out).1).trans HBX.out);have hw1:w.heap.size<w1.heap.size:=(Array.getElem?_eq_some_iff.1 HBX1.out).1;replace y0:=cO hb1 y0;replace y1:=cO hb1 y1;replace y2:=cO hb1 y2;replace y3:=cO hb1 y3;replace y4:=cO hb1 y4;replace y5:=cO hb1 y5;replace y6:=cO hb1 y6;clear hb1))
 have hnew:=RowsI.new w1 n 34 (fun _=> .slice none 0 0) (fun _=>rfl) w1.heap.size rfl;have hal:=alF w1 (.cells (rowA n (fun _=> .slice none 0 0)) 34);have HR3:=aF (hnew.keep hb3).nil_base;have HX3:=aF ((hb3.block _ (by simp;omega)).trans ((hal.block _ hw1).trans HBX1.out));have HB3:=aF ((HB1.out.trans (hal.mono HB1.out.size)).trans (hb3.mono (by simp;omega)));have hw13:w1.heap.size<w3.heap.size:=HR3.out.head.lt;have HE:=aF hE;have HS3:=aF hs3;have hsle:=hs3.le;have hsbg:=hs3.big;obtain ⟨b0,hb0⟩:∃b0,w3.heap.size=b0:=⟨_,rfl⟩;rw [hb0] at HR3 hw13;have HB0E:=aF hb0;obtain ⟨b1,hb1⟩:∃b1,w1.heap.size=b1:=⟨_,rfl⟩;rw [hb1] at HR3 hw13 hw1 ⊢;clear hnew hal hE hs3 hb3 HBX HBX1 HB0 HB1 hb0 hb1 HC HG;go_loopw [6,26] (fun _ i wr=>∃(k:Nat) (F:Nat->Value),i = .int .i64 k/\k<=E.length/\Hid (RowsI wr b0 b1 n 34 (befL (E.take k)) F)/\Hid (Eb w3 b1 wr)) (fun _ i _=>E.length - (intOf i).toNat)
 case atStart=>exact ⟨0,_,rfl,by omega,HR3,aF (Eb.refl _ _)⟩
 case round=>
  obtain ⟨k,F,rfl,hk,HR,HEB⟩:=hrel;by_cases hlt:k<E.length
  case pos=>
   obtain ⟨sb,so,hSA,hsb,hx0⟩:=(HEB.out.prs HR3.out.head (fun _ _ _ h=>by cases h) HS3.out).sl.at_ hlt;have hf:=(HE.out.2 _).1 (bM hlt);have HTK:Hid (E.take (k+1)=E.take k ++ [E[k]]):=aF (bF hlt);have hfl:=fX hf;generalize E[k]=z at *;obtain ⟨x1,x2⟩:=z;simp only at hfl hx0 hf;obtain ⟨q,rfl⟩:=bG hfl.2.2.1;rw [HNE.out] at hfl;have hqn:q<n:=by omega
   have s0:wr.cell? ⟨sb,so+k * 2,none⟩=some (.int .i64 x1):=hx0.1;have s1:wr.cell? ⟨sb,so+k * 2+1,none⟩=some (.int .i64 (q:Int)):=hx0.2
   have hln:(befL (E.take k) q).length<=1000:=by
    have g1:=xW E k q;have g2:=sN HE.out q;rw [HNE.out] at g2;omega
   rw [hSA];have HSA:=aF hSA;clear hx0 hf hfl hSA;have hbz:w3.heap.size<=wr.heap.size:=HEB.out.size;go_wp2_with fail
   obtain ⟨W5,hW5,e0,e1,HR5,HE5⟩:∃W5,W5=wr.alloc (.cells #[.int .i64 x1,.int .i64 (q:Int)] 43)/\W5.cell? ⟨wr.heap.size,0,none⟩=some (.int .i64 x1)/\W5.cell? ⟨wr.heap.size,1,none⟩=some (.int .i64 (q:Int))/\Hid (RowsI W5 b0 b1 n 34 (befL (E.take k)) F)/\Hid (Eb w3 b1 W5):=⟨_,rfl,cQ wr [.int .i64 x1,.int .i64 (q:Int)] 43 0 _ rfl,cQ wr [.int .i64 x1,.int .i64 (q:Int)] 43 1 _ rfl,aF (HR.out.keep (alF _ _)),aF (HEB.out.then_ (alF _ _))⟩;rw [<- hW5];clear hW5;obtain ⟨VA,vc,hv⟩:=dE (HR5.out.rows q);have c5:=HR5.out.head.cell hqn;rw [hv] at c5;have hown:W5.drew.ownsRow b0 3 1 (F q) (befL (E.take k) q).length ((befL (E.take k) q).map (Value.int .i64)):=HR5.out.rows q;have HV:=aF hv;rw [hv] at hown;have hb5:b0<=W5.heap.size:=by have:=HR5.out.low;omega
   have hl5:b1<W5.heap.size:=HR5.out.head.lt;have hlw5:wr.heap.size<W5.heap.size:=cD _ _ e0
   have hnb:some wr.heap.size≠(F q).ownBlock:=fun e=>by
    have:=((HR.out.rows q).lt _ e.symm).2;omega
   clear s0 s1 HSA;have hS:W5.drew.cell? ⟨wr.heap.size,0,none⟩=some (.int .i64 x1)/\W5.drew.cell? ⟨wr.heap.size,1,none⟩=some (.int .i64 (q:Int))/\W5.drew.cell? ⟨b1,q,none⟩=some (.slice VA (befL (E.take k) q).length vc):=⟨e0,e1,c5⟩;refine eI (S:=fun X=>X.cell? ⟨wr.heap.size,0,none⟩=some (.int .i64 x1)/\X.cell? ⟨wr.heap.size,1,none⟩=some (.int .i64 (q:Int))/\X.cell? ⟨b1,q,none⟩=some (.slice VA (befL (E.take k) q).length vc)) 13 [0,1,2,3,4,5,6,7,8,9,10,11,12,13] (by kernel_rfl) ?_;(iterate 10 (refine cR (v:=?_) ?_ hS ?_;rotate_left;(next=>(rintro X ⟨q1,q2,q3⟩;(try simp only [aI]);go_simp;rfl));simp only [aM]));(refine cY (fun K1 hK1=>?_);simp only [aM];rw [bA (by rfl)];go_simp);obtain ⟨W6,hW6⟩:∃X,(W5.alloc (.cells #[.int .i64 x1] 3)).drew=X:=⟨_,rfl⟩;have hb56:Below W5.heap.size W5 W6:=by rw [<- hW6];exact ((aX _ _).alloc (aY _) _).drew
   have hnews:∀j u,[Value.int .i64 x1][j]?=some u->W6.cell? ((⟨W5.heap.size,0,none⟩:Addr).add j)=some u:=by rw [<- hW6];exact fun j u hj=>dZ W5 _ _ _ rfl j u hj
   try rw [hW6]
   refine hK1.out _ _ (fun _=>⟨cO hb56 e0,cO hb56 e1,cO hb56 c5⟩) ?_;have HRA:=aF (HR5.out.keep hb56);have HEA:=aF (HE5.out.then_ hb56);have hown6:=HRA.out.rows q;have hb6:=hb56.size;(refine cY (fun K1 hK1=>?_);simp only [aM];rw [bA (by rfl)]);refine fM (.tmp 37) (.tmp 40) 34 rfl b0 3 i0 (.int .i64 0) 1 8 Tryz.underlying34 hi0 hz0 hz1 hz2 rfl (by decide) (F q) _ _ (by rw [HV.out];rfl) hown6 ⟨W5.heap.size,0,none⟩ 1 1 [.int .i64 x1] rfl rfl hnews (ints_oneCell .i64 [x1]) (by unfold maxLen;omega) (by omega) (by omega) ?_;intro v7 W7 hown7 hgrow7 hloc7;have hrow7:=HRA.out.head.block (hgrow7.block b1 (by omega) (dV hown6 hw13));have c7:=hrow7.cell hqn;rw [HV.out] at c7;have f7:W7.frozen? ⟨b1,q,none⟩=false:=hrow7.frozen q;have hS:W7.cell? ⟨wr.heap.size,0,none⟩=some (.int .i64 x1)/\W7.cell? ⟨wr.heap.size,1,none⟩=some (.int .i64 (q:Int))/\W7.cell? ⟨b1,q,none⟩=some (.slice VA (befL (E.take k) q).length vc):=⟨dW hgrow7 (cO hb56 e0) hnb,dW hgrow7 (cO hb56 e1) hnb,c7⟩;refine hK1.out _ _ (fun _=>hS) ?_;have HST:=aF (HRA.out.step q x1 _ hown7 hgrow7 hloc7);rw [<- xV,<- HTK.out] at HST;have HEN:=aF ((HEA.out.grown hgrow7 (fun g hg=>by have:=(hown6.lt g hg).1;rw [HB0E.out];exact this)).set q v7);obtain ⟨VB,vd,rfl⟩:=dE hown7;clear hown7 hgrow7 hloc7 hown6 hown hnews hrow7;((refine cR (v:=?_) ?_ hS ?_;rotate_left;(next=>(rintro X ⟨q1,q2,q3⟩;(try simp only [aI]);go_simp;rfl));simp only [aM]))
   (refine cY (fun K1 hK1=>?_);simp only [aM];rw [bA (by rfl)];go_simp);refine hK1.out _ _ (fun h=>absurd h (by decide)) ?_;refine cZ ?_;clear hS c7 f7 e0 e1 c5;go_wp2_with fail
   go_roundw
   case rel=>exact ⟨k+1,_,by go_num,by omega,HST,HEN⟩
   case measure=>simp [intOf];omega
  case neg=>
  obtain rfl:k=E.length:=by omega
  rw [bZ] at HR;have HBF:=aF (fun (p:Nat)=>sM HE.out p);have HBN:Hid (∀p,(befL E p).length<=n):=aF (fun p=>by have:=sN HE.out p;rwa [HNE.out] at this);have HLB:=aF (HEB.out.below HB3.out (Nat.le_of_lt hw1));have HXB:=aF ((HEB.out.keep w.heap.size (by rw [HB0E.out];omega) (by omega)).trans HX3.out);have hmkE:=nW n hc;have hmkL:=wP n hc;clear HE HS3 hsle hsbg HEB HX3 HB3;generalize befL E=BE at *;go_upto_region 8 with fail
  go_cut [7,8] (fun ev lv wx=>∃g2 g3,ev = .slice (some ⟨g2,0,none⟩) n n/\lv = .slice (some ⟨g3,0,none⟩) n n/\Row3 n wr g2 g3 wx)
  case first=>
   have hS:(fun _:World=>True) wr.drew:=trivial;refine eI (S:=fun _=>True) 6 [0,2,1,4,3,5] (by kernel_rfl) ?_;(iterate 2 (refine cR (v:=?_) ?_ hS ?_;rotate_left;(next=>(rintro X -;(try simp only [aI]);go_simp;rfl));simp only [aM]));refine yG [0,2,1,4,3,5] [0,2,3,1,4,5] (by kernel_rfl) (fun K1 hK1=>?_) (fun K1 hK1=>?_)
   ·(simp only [aM]);rw [bA (by rfl)];go_simp;refine hK1.out _ _ (fun _=>trivial) ?_;have hS:(fun _:World=>True) wr:=trivial;((refine cR (v:=?_) ?_ hS ?_;rotate_left;(next=>(rintro X -;(try simp only [aI]);go_simp;rfl));simp only [aM]))
    (refine cY (fun K1 hK1=>?_);simp only [aM];rw [bA (by rfl)];go_simp);refine hK1.out _ _ (fun _=>trivial) ?_;((refine cR (v:=?_) ?_ hS ?_;rotate_left;(next=>(rintro X -;(try simp only [aI]);go_simp;rfl));simp only [aM]))
    refine cZ ?_;go_wp2_with fail
    go_meet;exact ⟨_,_,rfl,rfl,(xEQ n wr).drew⟩
   ·(simp only [aM]);rw [bA (by rfl)];go_simp;refine hK1.out _ _ (fun _=>trivial) ?_;have hS:(fun _:World=>True) wr:=trivial;(refine cY (fun K1 hK1=>?_);simp only [aM];rw [bA (by rfl)];go_simp);refine hK1.out _ _ (fun _=>trivial) ?_;(iterate 2 (refine cR (v:=?_) ?_ hS ?_;rotate_left;(next=>(rintro X -;(try simp only [aI]);go_simp;rfl));simp only [aM]));refine cZ ?_;go_wp2_with fail
    go_meet;exact ⟨_,_,rfl,rfl,(xEP n wr).drew⟩
  case rest=>
  obtain ⟨g2,g3,rfl,rfl,hrow⟩:=hcut;have HS0:Hid (LcW b bh w n b0 b1 g2 g3 BE F (fun _=>(none,0,false)) 0 (fun _=>[]) (fun _=>0) wc):=aF ⟨(hrow.2.2.1.block _ (Array.getElem?_eq_some_iff.1 HXB.out).1).trans HXB.out,HR.out.keep hrow.2.2.1,hrow.1,hrow.2.1,fun j hj=>by omega,fun i j hi=>by omega,HLB.out.trans (hrow.2.2.1.mono HLB.out.size),⟨hw1,by have:=hrow.2.2.2.1;have:=(Array.getElem?_eq_some_iff.1 HXB.out).1;omega,by have:=hrow.2.2.2.2;have:=(Array.getElem?_eq_some_iff.1 HXB.out).1;omega⟩,fun j hj=>by omega⟩;have hwb:w.heap.size<=b0:=by omega
  clear hrow HR HLB HXB hmkE hmkL;go_wp2_with fail
  go_loopw [9,10,11,49] (fun v _ _ i wr=>∃(m:Nat) (EV:Nat->Option Nat × Int × Bool) (MB:Nat->Nat) (wk:List (Int × Int)),i = .int .i64 m/\m<=n/\Hid (LcW b bh w n b0 b1 g2 g3 BE F EV m (fun _=>[]) MB wr)/\Hid (EvOk b.blocks EV m)/\Hid (wr.ownsRow b0 43 2 v wk.length (wk.flatMap prC))/\Hid (Wb b.blocks U wk m (fun _=>true))) (fun _ _ _ i _=>n - (intOf i).toNat)
  case atStart=>exact ⟨0,_,_,[],rfl,by omega,HS0,aF (fun p hp=>by omega),aF (World.ownsRow_nil _ _ _ _),aF (Wb.zero _ _ _ (fun _ _=>rfl))⟩
  case round=>
  clear HS0;obtain ⟨m,EV,MB,wk,rfl,hm,HS,HEV,HW,HWB⟩:=hrel;by_cases hlt:m<n
  case pos=>
   have y0:=HS.out.cell 0 _ rfl;have y1:=HS.out.cell 1 _ rfl;have y2:=HS.out.cell 2 _ rfl;have y3:=HS.out.cell 3 _ rfl;have y4:=HS.out.cell 4 _ rfl;have y5:=HS.out.cell 5 _ rfl;have y6:=HS.out.cell 6 _ rfl;have x3:wr.cell? ⟨g3,m,none⟩=some (.map none):=by rw [HS.out.liv.cell hlt];unfold lvF;rw [aZ (by omega)]
   obtain ⟨x0,x1,x2⟩:=HS.out.eff3 hlt
   have HNO:Hid (¬locB b.blocks (m:Int)=none):=aF (by
    obtain ⟨q,hq⟩:=lO (bs:=b.blocks) (p:=(m:Int)) (by omega) (by rw [HNE.out];omega)
    rw [hq];simp)
   go_upto_region 13 with fail
   go_cut [] (fun wx=>CutM b bh w n b0 b1 g2 g3 BE F EV m MB u9 wk wx)
   case first=>
    go_wp2_with (go_at_call 34;refine (HAT.out _ HS.out.low (m:Int) ⟨by omega,by omega⟩).mono ?_;rintro e' w4 h4;have h5:=h4.ef HNO.out;unfold EfR at h5;obtain ⟨mb,d,hd,sl,rfl,hmb,ho,hm2,hdd,-,hb4⟩:=h5;have HS4:=aF (HS.out.keep hb4);have HW4:=aF (dG HW.out hb4);have HO4:=aF ho;have HM4:=aF hm2;have HD4:=aF hdd;replace x0:=cO hb4 x0;replace x1:=cO hb4 x1;replace x2:=cO hb4 x2;replace x3:=cO hb4 x3;have f0:=HS4.out.frozen2 (m * 3);have f1:=HS4.out.frozen2 (m * 3+1);have f2:=HS4.out.frozen2 (m * 3+2);have f3:=HS4.out.frozen3 m;obtain ⟨k2,k3,k1,k0⟩:=HS4.out.lt2;have k23:=HS4.out.ne23;have k32:=Ne.symm k23;clear h4 ho hm2 hdd hb4 y0 y1 y2 y3 y4 y5 y6)
    go_meet;exact xAX HS4.out HEV.out HW4.out HO4.out HM4.out HD4.out (by have:=HS.out.low.size;omega)
   case rest=>
   obtain ⟨mb,g,sl,d,hd,hS,hE,hW,hO,hM,hmb⟩:=hcut;have HSC:=aF hS;have HEC:=aF hE;have HWC:=aF hW;have HMC:=aF hM;have HOC:=aF hO;have x0c:=(hS.eff3 hlt).1;rw [show (updE EV m (some mb,d,hd) m).1=some mb by unfold updE;rw [bA rfl]] at x0c;generalize updE EV m (some mb,d,hd)=EV2 at *;generalize updM MB m g=MB2 at *;clear hS hE hW hO hM HS HEV HW x0 x1 x2 x3 HNO y0 y1 y2 y3 y4 y5 y6;go_wp2_with (at_range;refine lY _ rfl _ rfl mb 1000000 sl rfl HOC.out ?_;intro w5 cnt hrg hg5 hs5)
   go_frame
   have hb5:Below wc.heap.size wc w5:=⟨hg5.os,hg5.tape,hg5.output,hg5.size,fun k hk=>hg5.block k hk (by simp)⟩;have HS5:=aF (HSC.out.keep hb5);have HW5:=aF (dG HWC.out hb5);have HRG5:=aF hrg;have hlr:w.heap.size<=wc.heap.size:=HSC.out.low.size;obtain ⟨r,hr⟩:∃r,wc.heap.size=r:=⟨_,rfl⟩;rw [hr] at HRG5 hlr ⊢;clear hb5 hg5 hs5 hrg HSC HWC HOC x0c hr;go_loopw [9,11] (fun v _ wr=>∃(left:Int->Bool) (cnt:Nat) (wk:List (Int × Int)),Hid (RngI wr mb r 1000000 sl left cnt)/\Hid (LcW b bh w n b0 b1 g2 g3 BE F EV2 (m+1) (fun _=>[]) MB2 wr)/\Hid (wr.ownsRow b0 43 2 v wk.length (wk.flatMap prC))/\Hid (Wb b.blocks U wk m left)) (fun _ _ wr=>wr.rangeLeft mb r)
   case atStart=>exact ⟨_,cnt,wk,HRG5,HS5,HW5,aF (HWB.out.set _ (fun x hx=>by simp [(HMC.out x).2 hx]))⟩
   case round=>
    clear HRG5 HS5 HW5 HWB;obtain ⟨left,cnt,wk,HRG,HS,HW,HWB⟩:=hrel;go_wp2_with (at_next;refine mU _ rfl _ rfl mb r 1000000 sl left cnt rfl HRG.out ?_ ?_)
    ·intro hl0;have HWN:=aF (HWB.out.next hl0 (fun _=>true) (fun _ _=>rfl));go_wp2_with fail
     go_roundw
     case rel=>exact ⟨m+1,EV2,MB2,wk,by go_num,by omega,HS,HEC,HW,HWN⟩
     case measure=>simp [intOf];omega
    ·intro x c2 w6 cnt2 hwf hlx hxs hrg6 hlt6 hgr6 hsz6 hen;obtain ⟨ms,ss,ts,cs,hit⟩:=HRG.out.iter;have HS6:=aF (HS.out.iter hit hgr6 hlr);have HW6:=aF (nR HW.out hit (fun _ _ e=>by cases e) hgr6);have HRG6:=aF hrg6;have HWN:=aF (HWB.out.push ((HMC.out x).1 hxs) hlx (HUU.out _ x ((HMC.out x).1 hxs)).1);simp only [ne_eq,decide_not] at HWN;have HLT:=aF hlt6;have hwl:wk.length<=1000000:=bX HWB.out.all (bX (Nat.mul_le_mul (show m+1<=1000 by omega) hU) (by omega));obtain ⟨VA,vc,rfl⟩:=dE HW.out;have hown:=HW6.out.alloc (.cells #[.int .i64 (m:Int),.int .i64 x] 43);have hlb:b0<=w6.heap.size:=HS6.out.bef.low;clear hit hwf hlx hxs hrg6 hlt6 hgr6 hsz6 HWB;go_wp2_with (at_builtin;refine wpList_append_own _ rfl _ _ 23 rfl b0 43 q0 (.agg #[.int .i64 0,.int .i64 0]) 2 16 Tryz.underlying23 hq0 hq1 hq2 hq3 rfl (by decide) _ _ _ rfl hown ⟨w6.heap.size,0,none⟩ 1 1 (prC ((m:Int),x)) rfl rfl (fun j u hj=>by rw [add0];exact gI _ _ _ j u hj) (fun u hu=>by simp [prC] at hu;rcases hu with rfl | rfl <;> rfl) (by unfold maxLen;omega) (by omega) (by simp;omega) ?_;intro v7 w7 hown7 hgrow7 _)
     have hal6:=alF w6 (.cells #[.int .i64 (m:Int),.int .i64 x] 43);have HRG7:=aF ((HRG6.out.below hal6).grow hown hgrow7);have HS7:=aF ((HS6.out.keep hal6).grow hown hgrow7 hwb);have HW7:=aF (jY hown7);clear hown hown7 hgrow7 hal6 hen;go_roundw
     case rel=>exact ⟨_,cnt2,wk ++ [((m:Int),x)],HRG7,HS7,HW7,HWN⟩
     case measure=>rw [HRG7.out.left_eq,HRG.out.left_eq];exact HLT.out
  case neg=>
  have hnm:m=n:=by omega
  subst hnm;have HWK:=aF (HWB.out.start (by rw [HNE.out];exact aY _));have HWL:=aF (show wk.length<=(m+1) * U.length+totL (fun _=>[]) m * m by have:=HWB.out.all;omega);have hmk4:=kG m hc;clear HWB hlt hm HAT;go_wp2_with fail
  go_step3
  go_wp2_with fail
  go_loopg [9,12,13,15] (msW (m * U.length) m (totL (fun _=>[]) m) wk.length) (fun gk v _ _ _ wr=>∃(L:Int->List Int) (wk:List (Int × Int)),gk=msW (m * U.length) m (totL L m) wk.length/\Hid (LcW b bh w m b0 b1 g2 g3 BE F EV m L MB wr)/\Hid (wr.ownsRow b0 43 2 v wk.length (wk.flatMap prC))/\Hid (Wk b.blocks U L wk (fun _ _ _=>False))/\Hid (wk.length<=(m+1) * U.length+totL L m * m))
  case atStart=>exact ⟨_,wk,rfl,HS,HW,HWK,HWL⟩
  case round=>
  clear HS HW HWK HWL;obtain ⟨L,wk,hgk,HS,HW,HWK,HWL⟩:=hrel;rcases List.eq_nil_or_concat wk with rfl | ⟨wk,⟨p,x⟩,rfl⟩
  ·obtain ⟨A9,c9,rfl⟩:=dE HW.out;simp only [bO];have HLV:=aF (fun p z=>HWK.out.done p z)
   have HSM:Hid (∀p,∀z∈L p,Sml z):=aF (fun p z hz=>by
    obtain ⟨q,hq⟩:=(HWK.out.snd p z hz).used
    exact (HUU.out q z hq).2)
   obtain ⟨W4,rfl⟩:∃W4,W4=wr:=⟨_,rfl⟩;have hR4:RowF (W4.alloc (.cells (rowA m (fun _=> .slice none 0 0)) 34)) W4.heap.size m 34 (TF []):=(RowF.new W4 m 34 _).congr (fun j _=>by simp [TF]);have hB4:=alF W4 (.cells (rowA m (fun _=> .slice none 0 0)) 34);have HR4:=aF hR4;have HB4:=aF hB4;clear HW HWK HWL hgk hR4 hB4;go_wp2_with fail
   go_loopw [17,18,147] (fun _ _ i wr=>∃(k:Nat) (tr:List Tr),i = .int .i64 k/\k<=m/\tr.length=k/\Hid (Below W4.heap.size W4 wr)/\Hid (RowF wr W4.heap.size m 34 (TF tr))/\Hid (∀t∈tr,Slc 1 RInt wr t.1 t.2.2 t.2.1/\∀a,t.1=some a->W4.heap.size<a.block)/\Hid (∀(i:Nat) t,tr[i]?=some t->Srt t.2.1 (fun z=>Lv b.blocks z (i:Int)))) (fun _ _ i _=>m - (intOf i).toNat)
   case atStart=>exact ⟨0,[],rfl,by omega,rfl,HB4,HR4,aF (fun t ht=>by cases ht),aF (fun i t ht=>by cases ht)⟩
   case round=>
    clear HR4 HB4;obtain ⟨k,tr,rfl,hk,htl,HB,HR,HT,HSR⟩:=hrel;by_cases hlt:k<m
    case pos=>
     have l3:=cO HB.out (HS.out.livC hlt hlt);have hok:=(HS.out.maps k hlt).below HB.out;have HOK:=aF hok;have h4:W4.heap.size<wr.heap.size:=HR.out.lt;clear hok
     go_wp2_with (first
      | (go_at_call 37;refine (rV _ _).mono ?_;rintro e' w5 ⟨rfl,rfl⟩)
      | (go_at_call 36;refine (lA wr (MB k) _ (L k) HOK.out (HSM.out k)).mono ?_;rintro e' w6 ⟨A6,c6,s6,rfl,hsr,hsl,hlo,hb6⟩;have hR6:=HR.out.block (hb6.block _ h4);have c4:=hR6.cell hlt;have f4:w6.frozen? ⟨W4.heap.size,k,none⟩=false:=hR6.frozen k;have d4:TF tr k = .slice none 0 0:=(by unfold TF;rw [cE (by omega)]);rw [d4] at c4))
     have hTF:RowF (w6.setCell ⟨W4.heap.size,k,none⟩ (.slice A6 s6.length c6)) W4.heap.size m 34 (TF (tr ++ [(A6,s6,c6)])):=(hR6.set k (.slice A6 s6.length c6)).congr (fun j _=>by have:=xED tr (A6,s6,c6) j;rw [htl] at this;exact this);have HTF:=aF hTF;have HB7:=aF (RowF.below (j:=k) (b:=W4.heap.size) (.slice A6 s6.length c6) (aY _) (HB.out.trans (hb6.mono HB.out.size)))
     have HT7:Hid (∀t∈tr ++ [(A6,s6,c6)],Slc 1 RInt (w6.setCell ⟨W4.heap.size,k,none⟩ (.slice A6 s6.length c6)) t.1 t.2.2 t.2.1/\∀a,t.1=some a->W4.heap.size<a.block):=aF (fun t ht=>by
      have key:Slc 1 RInt w6 t.1 t.2.2 t.2.1/\∀a,t.1=some a->W4.heap.size<a.block:=by
       rcases List.mem_append.1 ht with ht | ht
       ·exact ⟨(HT.out t ht).1.keep RInt.keeps hb6,(HT.out t ht).2⟩
       ·rw [List.mem_singleton.1 ht];exact ⟨hsl,fun a ha=>by have:=hlo a ha;omega⟩
      exact ⟨xCO key.1 key.2 k _,key.2⟩)
     have HS7:Hid (∀(i:Nat) t,(tr ++ [(A6,s6,c6)])[i]?=some t->Srt t.2.1 (fun z=>Lv b.blocks z (i:Int))):=aF (fun i t ht=>by
      by_cases hi:i<tr.length
      ·rw [List.getElem?_append_left hi] at ht;exact HSR.out i t ht
      ·rw [List.getElem?_append_right (by omega)] at ht
       have h0:i - tr.length=0:=by
        have:=(List.getElem?_eq_some_iff.1 ht).1;simp at this;omega
       rw [h0] at ht;injection ht with ht
       subst ht;have:i=k:=by omega
       subst this
       exact hsr.iff (fun z=>HLV.out _ z))
     clear hTF hR6 c4 f4 d4 hsr hsl hlo hb6;go_roundw
     case rel=>exact ⟨k+1,tr ++ [(A6,s6,c6)],by go_num,by omega,by simp [htl],HB7,HTF,HT7,HS7⟩
     case measure=>simp [intOf];omega
    case neg=>
     have hkm:k=m:=(by omega);subst hkm;have HOUT:=aF (xCQ HR.out htl (by omega) (fun t ht=>(HT.out t ht).1))
     have HFIN:Hid (∀(i:Nat) (l:List Int),(tr.map (·.2.1))[i]?=some l->Srt l (fun z=>Lv b.blocks z (i:Int))):=aF (fun i l hl=>by
      rw [cN] at hl;cases e:tr[i]? with
      | none=>rw [e] at hl;cases hl
      | some t=>rw [e] at hl;injection hl with hl;subst hl;exact HSR.out i t e)
     have HBF2:=aF (HS.out.low.trans (HB.out.mono HS.out.low.size));go_wp2_with fail
     rw [Exit.noGoto_ret];go_ret;exact ⟨some ⟨W4.heap.size,0,none⟩,k,tr.map (·.2.1),by rw [cF,htl];rfl,by rw [cF,htl],HFIN.out,HOUT.out,HBF2.out⟩
  ·rw [List.concat_eq_append] at *;have hlv:Lv b.blocks x p:=HWK.out.wsnd (p,x) (by simp);have hpr:=hlv.lt;rw [HNE.out] at hpr;obtain ⟨j,rfl⟩:=bG hpr.1;have hj:j<m:=by omega
   have hxu:x∈U/\Sml x:=by obtain ⟨q,hq⟩:=hlv.used;exact HUU.out q x hq
   obtain ⟨g,cap,rfl,hc1,hc2,w0,w1c,hpop⟩:=xAA HW.out;have HPOP:=aF hpop;have HXU:=aF hxu;have HLVX:=aF hlv;have keyx:=fO hxu.2;have l3:=HS.out.livC hj hj;have hown:=(HS.out.maps j hj)
   have hwl2:wk.length<=2000000000:=by
    have h1:=yI hc hU (HWK.out.tot m) HWL.out;simp at h1;omega
   have hwrp:IntKind.i64.wrap (wk.length:Int)=(wk.length:Int):=by rw [IntWalk.i64_left];unfold RowKit.wrap64;omega
   clear hpop hpr hlv hxu;go_upto_region 20 with fail
   have hS:wr.drew.cell? ⟨g,wk.length * 2,none⟩=some (.int .i64 (j:Int))/\wr.drew.cell? ⟨g,wk.length * 2+1,none⟩=some (.int .i64 x):=⟨w0,w1c⟩;refine cT (S:=fun X=>X.cell? ⟨g,wk.length * 2,none⟩=some (.int .i64 (j:Int))/\X.cell? ⟨g,wk.length * 2+1,none⟩=some (.int .i64 x)) [0,1,2,3,4,5,6,8,9,14,7,10,11,12,13,15] (by kernel_rfl) ?_;(iterate 16 (refine cR (v:=?_) ?_ hS ?_;rotate_left;(next=>(rintro X ⟨hX,hY⟩;have hlt1:(wk.length:Int)<(wk.length:Int)+1:=(by omega);(try simp only [aI]);go_simp;rfl));simp only [aM]));clear hwrp;refine cZ ?_;clear hS w0 w1c;have HSd:=aF (HS.out.keep ((aX wr.heap.size wr).drew));have HWd:Hid (wr.drew.ownsRow b0 43 2 (.slice (some ⟨g,0,none⟩) wk.length cap) wk.length (wk.flatMap prC)):=aF HPOP.out;have l3d:wr.drew.cell? ⟨g3,j,none⟩=some (.map (some (MB j))):=l3;have hownd:OwnI wr.drew (MB j) 1000000 (L (j:Int)):=hown;clear l3 hown HS HPOP HW;generalize wr.drew=W5 at *;by_cases hx:x∈L (j:Int)
   ·have HFB:Hid (i64F (inF (L (j:Int))) (.int .i64 x)=true):=aF (by simp [i64F,inF,hx]);have HWN:=aF (HWK.out.known hx);go_wp2_with (at_lookup;refine dD _ rfl _ _ 75 rfl 3 4 law3 Tryz.underlying75 Tryz.underlying4 (gC _) _ _ _ rfl hownd.toB _ _ rfl keyx ?_;rw [HFB.out])
    go_roundg (msW (m * U.length) m (totL L m) wk.length)
    case measure=>rw [hgk,bB,cG];exact xDH
    case rel=>exact ⟨L,wk,rfl,HSd,HWd,HWN,aF (by have:=HWL.out;simp at this;omega)⟩
   ·have HFB:Hid (i64F (inF (L (j:Int))) (.int .i64 x)=false):=aF (by simp [i64F,inF,hx]);have HWX:=aF (Wx.start (l:=BE j) HWK.out hx HXU.out.1 (fun q hq=>((HBF.out j).2 q).2 hq));have HTT:Hid (totL (addL L (j:Int) x) m=totL L m+1):=aF (qX (by omega) (by omega));have HMM:=aF (Wk.tot HWX.out m);rw [HTT.out] at HMM
    have hsm:∀z∈x :: L (j:Int),Sml z:=fun z hz=>by
     rcases List.mem_cons.1 hz with rfl | hz
     ·exact HXU.out.2
     ·obtain ⟨q,hq⟩:=(HWK.out.snd (j:Int) z hz).used;exact (HUU.out q z hq).2
    have HSML:=aF hsm;clear hsm
    go_wp2_with (first
     | (at_lookup;refine dD _ rfl _ _ 75 rfl 3 4 law3 Tryz.underlying75 Tryz.underlying4 (gC _) _ _ _ rfl hownd.toB _ _ rfl keyx ?_;rw [HFB.out])
     | (at_mapUpdate;refine eA _ rfl _ _ _ rfl (MB j) 1000000 (L (j:Int)) rfl hownd (by unfold maxLen;omega) x rfl rfl keyx ?_;intro w7 ho7 hg7;have HS7:=aF (HSd.out.put hj hg7 (ho7.tight HSML.out));have HW7:=aF (HSd.out.put_row hj hg7 HWd.out);obtain ⟨BA,bc,hbv,c7⟩:=HS7.out.bef_ hj;have HBV:=aF hbv;clear ho7 hg7 hbv l3d))
    have hbl:=HBN.out j;have HGK:=aF hgk;clear hgk HFB hownd HSd HWd HSML keyx;generalize addL L (j:Int) x=L2 at *;go_loopg [9,15,117] (BE j).length (fun gj v _ i wr=>∃(k:Nat) (wk2:List (Int × Int)),gj=(BE j).length - k/\i = .int .i64 k/\k<=(BE j).length/\wk2.length<=wk.length+k/\Hid (LcW b bh w m b0 b1 g2 g3 BE F EV m L2 MB wr)/\Hid (wr.ownsRow b0 43 2 v wk2.length (wk2.flatMap prC))/\Hid (Wx b.blocks U L2 wk2 (j:Int) x (BE j) k))
    case atStart=>exact ⟨0,wk,by omega,rfl,by omega,by omega,HS7,HW7,HWX⟩
    case round=>
     clear HS7 HW7 HWX c7;obtain ⟨k,wk2,hgj,rfl,hk,hwk2,HS8,HW8,HWX8⟩:=hrel;by_cases hlt:k<(BE j).length
     case pos=>
      obtain ⟨sb,so,rfl,hsb,hx0⟩:=(HS8.out.befS HBV.out).sl.at_ hlt;have HKI:=aF (bD hlt);have hf:=((HBF.out j).2 _).1 (bM hlt);have hfl:=fX hf;rw [HNE.out] at hfl;have s0:wr.cell? ⟨sb,so+k,none⟩=some (.int .i64 (BE j)[k]):=(by simpa [RInt] using hx0);clear hx0;generalize (BE j)[k]=q0 at *;obtain ⟨q,rfl⟩:=bG hfl.1;have hqm:q<m:=(by omega);obtain ⟨-,e1,e2⟩:=HS8.out.eff3 hqm;have hev:=HEV.out q hqm;have HF:=aF hf;generalize EV q=tq at e1 e2 hev;obtain ⟨mq,d,hd⟩:=tq;simp only at e1 e2 hev;have HEQ:=aF hev;obtain ⟨VA,vc,rfl⟩:=dE HW8.out;have hown:=HW8.out.alloc (.cells #[.int .i64 (q:Int),.int .i64 x] 43);have hlb:b0<=wr.heap.size:=HS8.out.bef.low;have HPU:=aF (fun h=>HWX8.out.push HLVX.out HKI.out HF.out h);have HPA:=aF (fun h=>HWX8.out.pass HKI.out h);clear hf hfl hev;cases hd
      ·have HPN:=aF (HPU.out (by rw [HEQ.out];simp));go_wp2_with (at_builtin;refine wpList_append_own _ rfl _ _ 23 rfl b0 43 q0 (.agg #[.int .i64 0,.int .i64 0]) 2 16 Tryz.underlying23 hq0 hq1 hq2 hq3 rfl (by decide) _ _ _ rfl hown ⟨wr.heap.size,0,none⟩ 1 1 (prC ((q:Int),x)) rfl rfl (fun j u hj=>by rw [add0];exact gI _ _ _ j u hj) (fun u hu=>by simp [prC] at hu;rcases hu with rfl | rfl <;> rfl) (by unfold maxLen;omega) (by omega) (by simp;omega) ?_;intro v9 w9 hown9 hgrow9 _)
       have HS9:=aF ((HS8.out.keep (alF wr (.cells #[.int .i64 (q:Int),.int .i64 x] 43))).grow hown hgrow9 hwb);have HW9:=aF (jY hown9);clear hown9 hgrow9 hown;go_roundg ((BE j).length - (k+1))
       case measure=>omega
       case rel=>exact ⟨k+1,wk2 ++ [((q:Int),x)],rfl,by go_num,by omega,by simp;omega,HS9,HW9,HPN⟩
      ·by_cases hdx:d=x
       ·have hb:(d != x)=false:=by simp [hdx]
        have HPN:=aF (HPA.out (by rw [HEQ.out,hdx];simp));clear hdx hown;go_wp2_with fail
        go_roundg ((BE j).length - (k+1))
        case measure=>omega
        case rel=>exact ⟨k+1,wk2,rfl,by go_num,by omega,by omega,HS8,HW8,HPN⟩
       ·have hb:(d != x)=true:=by simp [hdx]
        have HPN:=aF (HPU.out (by rw [HEQ.out];simp [hdx]));clear hdx;go_wp2_with (at_builtin;refine wpList_append_own _ rfl _ _ 23 rfl b0 43 q0 (.agg #[.int .i64 0,.int .i64 0]) 2 16 Tryz.underlying23 hq0 hq1 hq2 hq3 rfl (by decide) _ _ _ rfl hown ⟨wr.heap.size,0,none⟩ 1 1 (prC ((q:Int),x)) rfl rfl (fun j u hj=>by rw [add0];exact gI _ _ _ j u hj) (fun u hu=>by simp [prC] at hu;rcases hu with rfl | rfl <;> rfl) (by unfold maxLen;omega) (by omega) (by simp;omega) ?_;intro v9 w9 hown9 hgrow9 _)
        have HS9:=aF ((HS8.out.keep (alF wr (.cells #[.int .i64 (q:Int),.int .i64 x] 43))).grow hown hgrow9 hwb);have HW9:=aF (jY hown9);clear hown9 hgrow9 hown;go_roundg ((BE j).length - (k+1))
        case measure=>omega
        case rel=>exact ⟨k+1,wk2 ++ [((q:Int),x)],rfl,by go_num,by omega,by simp;omega,HS9,HW9,HPN⟩
     case neg=>
      have HWD:=aF (HWX8.out.done (by omega));go_wp2_with fail
      go_roundg (msW (m * U.length) m (totL L2 m) wk2.length)
      case measure=>rw [HGK.out,HTT.out,bB,cG];exact xAM HMM.out (by omega)
      case rel=>exact ⟨L2,wk2,rfl,HS8,HW8,HWD,aF (by
       have h1:=HWL.out;have h2:(totL L m+1) * m=totL L m * m+m:=Nat.succ_mul _ _;rw [HTT.out,h2];rw [bB,cG] at h1
       omega)⟩
end
end Go.Proofs.YtcfchohkmkilpaaGreatDoor
