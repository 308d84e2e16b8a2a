/-
  Parts of the proof: HW HX KB FH FI D0 D1.
-/
import Derived.Sort.WalkA
import Derived.Test.YtkaigkfbkpinlaaGreatDoorFP0
import Derived.Test.YtkaigkfbkpinlaaGreatDoorFP16
import Derived.Test.YtkaigkfbkpinlaaGreatDoorHV
import Derived.Test.YtkaigkfbkpinlaaGreatDoorFP14
import Derived.Test.YtkaigkfbkpinlaaGreatDoorFP15
import Derived.Test.YtkaigkfbkpinlaaGreatDoorFP6
import Derived.Test.YtkaigkfbkpinlaaGreatDoorFP5
import Derived.Test.YtkaigkfbkpinlaaGreatDoorFP3
namespace Go.Proofs.YtkaigkfbkpinlaaGreatDoor
set_option maxRecDepth 100000
set_option maxHeartbeats 16000000
section
open Go Go.RowKit Go.Maps Go.Sort Go.Shelf
theorem zW {w:World} {b n:Nat} {sl:List Int} {D:DataW Unit} (hm:w.ownsMap Tryz.prog 3 (plainElem Tryz.prog 4) b n D) (h3:∀kl,Maps.has D kl=i64F (inF sl) kl):(intKeys D).Nodup/\∀x,x∈intKeys D↔x∈sl:=by
 obtain ⟨es,rfl,ha,hkl⟩:=hm.entries law3
 have hk:∀p∈es,∃x∈sl,p.1=Lit.int .i64 x:=fun p hp=>by
  have h4:Maps.has (.map es) p.1=true:=by
   unfold Maps.has;rw [List.any_eq_true];refine ⟨p,hp,?_⟩;have:=hkl p hp;revert this
   cases p.1 <;> simp [Lit.sameKey,WideAt.IsKeyLit]
  rw [h3] at h4;unfold i64F at h4;split at h4
  ·rename_i x hx;exact ⟨x,by simpa [inF] using h4,hx⟩
  ·cases h4
 constructor
 ·unfold intKeys List.Nodup;rw [List.pairwise_map];refine List.Pairwise.imp_of_mem ?_ ha;intro p q hp hq hne e;obtain ⟨x,_,ex⟩:=hk p hp;obtain ⟨y,_,ey⟩:=hk q hq;rw [ex,ey] at e hne;exact hne (congrArg _ e)
 ·intro x;unfold intKeys;rw [cN];constructor
  ·rintro ⟨p,hp,e⟩;obtain ⟨y,hy,ey⟩:=hk p hp;rw [ey] at e;exact e ▸ hy
  ·intro hx;have h4:Maps.has (.map es) (Lit.int .i64 x)=true:=by rw [h3];simp [i64F,inF,hx]
   unfold Maps.has at h4;rw [List.any_eq_true] at h4;obtain ⟨p,hp,e⟩:=h4;obtain ⟨y,hy,ey⟩:=hk p hp;rw [ey] at e;simp [Lit.sameKey] at e;exact ⟨p,hp,by rw [ey,e];rfl⟩
theorem qX {ks:List Int} {sl:List Int} (h1:ks.Nodup) (h2:∀x,x∈ks↔x∈sl):Srt (ks.mergeSort (fun x y=>decide (x<=y))) (fun z=>z∈sl):=by
 have hp:=List.mergeSort_perm ks (fun x y=>decide (x<=y));refine ⟨?_,fun x=>(hp.mem_iff).trans (h2 x)⟩;have hs:(ks.mergeSort (fun x y=>decide (x<=y))).Pairwise (fun a b=>decide (a<=b)=true):=List.pairwise_mergeSort (fun a b c h k=>by simp at *;omega) (fun a b=>by simp;omega) ks;have hn:(ks.mergeSort (fun x y=>decide (x<=y))).Nodup:=hp.nodup_iff.2 h1;exact (hs.and hn).imp (fun ⟨a,b⟩=>by simp at a;omega)
theorem xEB (m:Nat):AnyZI.SortsIn Tryz.prog Tryz.sortedZ_ren Fence.wide m:=
 ⟨fun blk off cap ss W hH hblk hsz=>callsIn_wide.2 (AnyM.slices_Sort_int Tryz.sortZ blk off cap ss W hH hblk hsz),
  fun p cap W=>callsIn_wide.2 (AnyM.slices_Sort_int_none Tryz.sortZ p cap W)⟩
theorem zX (mb:Option Nat) (W:World):Calls Tryz.prog 128 #[.map mb] W fun e w'=>e = .returned (.func (.func 160) #[] #[.pointer (some ⟨W.heap.size,0,none⟩)])/\w'=W.alloc (.cells #[.map mb] 198):=
 (callsIn_wide (n:=5)).1 (AnyZI.keys_in Tryz.keysZ Fence.wide 5 trivial rfl mb W)
theorem sL (W:World) (b n:Nat) (sl:List Int) (ho:OwnI W b n sl) (hs:∀z∈sl,Sml z):
 Calls Tryz.prog 127 #[.func (.func 160) #[] #[.pointer (some ⟨W.heap.size,0,none⟩)]] (W.alloc (.cells #[.map (some b)] 198)) fun e w'=>∃A c s,e = .returned (.slice A s.length c)/\Srt s (fun z=>z∈sl)/\Slc 1 RInt w' A c s/\(∀a,A=some a->W.heap.size<=a.block)/\Below W.heap.size W w':=by
 have ho2:=ho.tight hs;have hbl:=ho.lt;obtain ⟨D,hown,h2,h3⟩:=ho2
 have hsz:Maps.size D<=1000000:=by
  obtain ⟨es,clock,hb,F,hsz,rfl⟩:=hown;change (List.foldr DataW.insert [] _).length<=_;rw [length_sorted];simpa using hsz
 have hseq:SeqGives Fence.wide 2 Tryz.prog 160 #[.pointer (some ⟨W.heap.size,0,none⟩)] encZ (fun ss=>ss.Perm (intKeys D)) (Maps.size D) (W.alloc (.cells #[.map (some b)] 198)):=
  AnyZI.keys_gives (ρ := Tryz.keysZ_ren) { Tryz.keysZ with } Fence.wide _ trivial rfl (by omega) W.heap.size b 1000000 D _ (by simp) (by simp) (by
   obtain ⟨es,clock,hb,Ft,hs,hD⟩:=hown
   exact ⟨es,clock,(Below.heap_alloc _ _ b hbl).trans hb,Ft,hs,hD⟩)
 have cS:=AnyZI.sorted_in Tryz.sortedZ Fence.wide 5 trivial trivial trivial trivial rfl (by omega) (xEB _) (enters_of Tryz.func130 (by kernel_rfl) rfl) 160 #[.pointer (some ⟨W.heap.size,0,none⟩)] trivial (enters_of Tryz.func160 (by kernel_rfl) rfl) _ _ (by unfold maxLen;omega) (by omega) _ hseq;change CallsIn _ _ Tryz.prog 127 _ _ _ at cS;refine ((callsIn_wide (n:=5)).1 cS).mono ?_;rintro e w' ⟨v,ss,rfl,hS,hrow,hnil,hb⟩;obtain ⟨hk1,hk2⟩:=zW hown h3;have hsr:=qX (hS.nodup_iff.2 hk1) (fun x=>(hS.mem_iff).trans (hk2 x));obtain ⟨A,c,rfl,hs1,hlo⟩:=gR (R:=RInt) (enc:=Value.int .i64) (fun _ _ _ _ _ h=>h) hrow (by simp);refine ⟨A,c,_,by simp,hsr,hs1,fun a ha=>?_,((aZ _ W).alloc (bA _) _).trans (hb.mono (by simp))⟩;have:=(hlo a ha).1;simp at this;omega
end
section
open Go Go.RowKit Go.Maps
def SetR (U:List Int) (w:World) (m:Option Nat) (w':World):Prop:=
 match m with
 | none=>U=[]
 | some mb=>∃sl,OwnI w' mb 1000000 sl/\(∀z,z∈sl↔z∈U)/\w.heap.size<=mb
theorem AtR.us {N:Prop} {U:List Int} {D:Option Int} {w w':World} {e':Ending} (h:AtR N U D w e' w'):∃(m:Option Nat) (d:Int) (hd:Bool),e' = .returned (.agg #[.map m,.int .i64 d,.bool hd])/\SetR U w m w'/\Below w.heap.size w w':=by
 rcases h with ⟨mb,d,hd,sl,rfl,h0,h1,h2,_,_,hb⟩ | ⟨_,rfl,rfl,rfl,hb⟩
 ·exact ⟨some mb,d,hd,rfl,⟨sl,h1,h2,h0⟩,hb⟩
 ·exact ⟨none,0,false,rfl,rfl,hb⟩
end
section
open Go Go.RowKit Go.Maps
theorem fH {A:World} {base:Nat} {e:TypeId} {size:Nat} {v:Value} {m:Nat} {xs:List Value} (h:A.ownsRow base e size v m xs) {g:Nat} (hg:v.ownBlock=some g):∃cur,A.heap[g]?=some (.cells cur e (0,0)):=by
 rcases h.2 with ⟨rfl,_⟩ | ⟨g',cap,cur,rfl,_,hh,_⟩
 ·cases hg
 ·injection hg with hg
  exact ⟨cur,hg ▸ hh⟩
def noPr:Obj->Prop
 | .cells _ e _=>e≠42
 | .map _ _=>True
 | _=>False
structure Ks (A B:World):Prop where
 size:A.heap.size<=B.heap.size
 same:∀(k:Nat) (o:Obj),A.heap[k]?=some o->noPr o->B.heap[k]?=some o
theorem Ks.refl (A:World):Ks A A:=⟨bA _,fun _ _ h _=>h⟩
theorem Ks.trans {A B C:World} (h:Ks A B) (g:Ks B C):Ks A C:=⟨cA h.size g.size,fun k o a b=>g.same k o (h.same k o a b) b⟩
theorem Ks.of_below {A B:World} (h:Below A.heap.size A B):Ks A B:=⟨h.size,fun k _ a _=>(h.block k (Array.getElem?_eq_some_iff.1 a).1).trans a⟩
theorem Ks.grow {A B:World} {base:Nat} {v:Value} {m:Nat} {xs:List Value} (h:A.ownsRow base 42 2 v m xs) (hg:A.grownBy B v.ownBlock):Ks A B:=
 ⟨hg.size,fun k o a b=>(hg.block k (Array.getElem?_eq_some_iff.1 a).1 (fun e=>by
   obtain ⟨cur,hc⟩:=fH h e.symm;rw [a] at hc;injection hc with hc;subst hc
   exact b rfl)).trans a⟩
theorem RngI.iter {w:World} {b r n:Nat} {sl:List Int} {left:Int->Bool} {cnt:Nat} (h:RngI w b r n sl left cnt):∃m s t c,w.heap[r]?=some (.mapIter m s t c):=by
 obtain ⟨D,lf,⟨es,clock,since,seen,c0,g1,F,hs,hD,g2,rest⟩,h2⟩:=h;exact ⟨_,_,_,_,g2⟩
theorem RngI.mobj {w:World} {b r n:Nat} {sl:List Int} {left:Int->Bool} {cnt:Nat} (h:RngI w b r n sl left cnt):∃es c,w.heap[b]?=some (.map es c):=by
 obtain ⟨D,lf,⟨es,clock,since,seen,c0,g1,F,hs,hD,g2,rest⟩,h2⟩:=h;exact ⟨_,_,g1⟩
theorem Ks.iter {A B:World} {r:Nat} {m s t c} (h:A.heap[r]?=some (.mapIter m s t c)) (hg:A.grownBy B (some r)):Ks A B:=
 ⟨hg.size,fun k o a b=>(hg.block k (Array.getElem?_eq_some_iff.1 a).1 (fun e=>by
   injection e with e;subst e
   rw [a] at h;injection h with h;subst h
   exact b)).trans a⟩
theorem iC {A B:World} {base:Nat} {e:TypeId} {k m:Nat} {v:Value} {xs:List Value} (h:A.ownsRow base e k v m xs) {r:Nat} {o:Obj} (hr:A.heap[r]?=some o) (ho:∀c z,o ≠ .cells c e z) (hg:A.grownBy B (some r)):B.ownsRow base e k v m xs:=
 dC h (fun j _ hj hv=>hg.block j hj (fun e'=>by
  injection e' with e';subst e'
  obtain ⟨cur,hc⟩:=fH h hv.symm;rw [hr] at hc;injection hc with hc
  exact ho _ _ hc))
theorem lK {A:World} {base:Nat} {e:TypeId} {k m:Nat} {v:Value} {xs:List Value} (h:A.ownsRow base e k v m xs) {p:Addr} {c:Array Value} {t:TypeId} {z:Nat × Nat} (hr:A.heap[p.block]?=some (.cells c t z)) (ht:t≠e) (u:Value):(A.setCell p u).ownsRow base e k v m xs:=
 dC h (fun j _ _ hv=>bJ A p u j (fun e'=>by
  subst e';obtain ⟨cur,hc⟩:=fH h hv.symm;rw [hr] at hc;injection hc with hc;injection hc with _ hc
  exact ht hc))
theorem OwnI.obj {w:World} {b n:Nat} {sl:List Int} (h:OwnI w b n sl):∃es c,w.heap[b]?=some (.map es c):=by
 obtain ⟨D,⟨es,clock,h1,_⟩,_⟩:=h;exact ⟨_,_,h1⟩
theorem OwnI.ks {A B:World} {b n:Nat} {sl:List Int} (h:OwnI A b n sl) (hk:Ks A B):OwnI B b n sl:=by
 obtain ⟨es,c,ho⟩:=h.obj;exact h.block ((hk.same _ _ ho trivial).trans ho.symm)
theorem RowF.ks {A B:World} {b n:Nat} {T:TypeId} {F:Nat->Value} (h:RowF A b n T F) (hT:T≠42) (hk:Ks A B):RowF B b n T F:=hk.same _ _ h hT
theorem RowsI.ks {A B:World} {base blk n:Nat} {T:TypeId} {L:Nat->List Int} {F:Nat->Value} (h:RowsI A base blk n T L F) (hT:T≠42) (hI:3≠42) (hk:Ks A B):RowsI B base blk n T L F:=
 ⟨h.head.ks hT hk,fun j=>dC (h.rows j) (fun k _ _ hv=>by
   obtain ⟨cur,hc⟩:=fH (h.rows j) hv.symm
   exact (hk.same _ _ hc hI).trans hc.symm),h.apart,h.lblk,cA h.low hk.size⟩
theorem RowsI.set_other {A:World} {base blk n:Nat} {T:TypeId} {L:Nat->List Int} {F:Nat->Value} (h:RowsI A base blk n T L F) {p:Addr} {c:Array Value} {t:TypeId} {z:Nat × Nat} (hr:A.heap[p.block]?=some (.cells c t z)) (h1:t≠T) (h2:t≠3) (u:Value):RowsI (A.setCell p u) base blk n T L F:=
 ⟨h.head.block (bJ A p u blk (fun e=>by
   subst e;have:=h.head;unfold RowF at this;rw [hr] at this;injection this with this;injection this with _ this
   exact h1 this)),fun j=>lK (h.rows j) hr h2 u,h.apart,h.lblk,by simpa using h.low⟩
theorem RowF.set_other {A:World} {b n:Nat} {T:TypeId} {F:Nat->Value} (h:RowF A b n T F) {p:Addr} {c:Array Value} {t:TypeId} {z:Nat × Nat} (hr:A.heap[p.block]?=some (.cells c t z)) (h1:t≠T) (u:Value):RowF (A.setCell p u) b n T F:=
 h.block (bJ A p u b (fun e=>by
  subst e;unfold RowF at h;rw [hr] at h;injection h with h;injection h with _ h
  exact h1 h))
theorem OwnI.set {A:World} {b n:Nat} {sl:List Int} (h:OwnI A b n sl) {p:Addr} {c:Array Value} {t:TypeId} {z:Nat × Nat} (hr:A.heap[p.block]?=some (.cells c t z)) (u:Value):OwnI (A.setCell p u) b n sl:=by
 obtain ⟨es,c',ho⟩:=h.obj
 exact h.block (bJ A p u b (fun e=>by
  subst e
  rw [hr] at ho;cases ho))
def efF (EV:Nat->Option Nat × Int × Bool) (j:Nat):Value:=if j % 3=0 then .map (EV (j / 3)).1 else if j % 3=1 then .int .i64 (EV (j / 3)).2.1 else .bool (EV (j / 3)).2.2
def updE (EV:Nat->Option Nat × Int × Bool) (p:Nat) (x:Option Nat × Int × Bool):Nat->Option Nat × Int × Bool:=fun i=>if i=p then x else EV i
theorem xDI (EV:Nat->Option Nat × Int × Bool) (p:Nat) (m:Option Nat) (d:Int) (hd:Bool) (j:Nat):
 updF1 (updF1 (updF1 (efF EV) (p * 3) (.map m)) (p * 3+1) (.int .i64 d)) (p * 3+2) (.bool hd) j=efF (updE EV p (m,d,hd)) j:=by
 unfold updF1 efF updE;by_cases h2:j=p * 3+2
 ·subst h2;rw [bD rfl,bB (by omega),bB (by omega),bD (by omega)]
 rw [bB h2];by_cases h1:j=p * 3+1
 ·subst h1;rw [bD rfl,bB (by omega),bD (by omega),bD (by omega)]
 rw [bB h1];by_cases h0:j=p * 3
 ·subst h0;rw [bD rfl,bD (by omega),bD (by omega)]
 rw [bB h0];have:¬j / 3=p:=by omega
 rw [bB this]
def lvF (MB:Nat->Nat) (m j:Nat):Value:=if j<m then .map (some (MB j)) else .map none
def updM (MB:Nat->Nat) (p b:Nat):Nat->Nat:=fun i=>if i=p then b else MB i
theorem xCT (MB:Nat->Nat) (m b j:Nat):updF1 (lvF MB m) m (.map (some b)) j=lvF (updM MB m b) (m+1) j:=by
 unfold updF1 lvF updM;by_cases h:j=m
 ·subst h;rw [bD rfl,bD (by omega),bD rfl]
 ·rw [bB h];by_cases h2:j<m
  ·rw [bD h2,bD (by omega),bB h]
  ·rw [bB h2,bB (by omega)]
structure LcW (b:Bdy) (bh:BH) (w:World) (n b0 b1 b2 b3:Nat) (E:Nat->List Int) (F:Nat->Value) (EV:Nat->Option Nat × Int × Bool) (m:Nat) (L:Int->List Int) (MB:Nat->Nat) (W:World):Prop where
 box:W.heap[w.heap.size]?=some (.cells ((bdH b bh [])).toArray 59 (0,0))
 bef:RowsI W b0 b1 n 48 E F
 eff:RowF W b2 (n * 3) 200 (efF EV)
 liv:RowF W b3 n 198 (lvF MB m)
 maps:∀j,j<m->OwnI W (MB j) 1000000 (L j)
 apart:∀i j,i<m->j<m->MB i=MB j->i=j
 low:Below w.heap.size w W
 lts:w.heap.size<b1/\w.heap.size<b2/\w.heap.size<b3
 hi:∀j,j<m->w.heap.size<MB j
theorem AtR.ef {N:Prop} {U:List Int} {D:Option Int} {w w':World} {e':Ending} (h:AtR N U D w e' w') (hN:¬N):EfR U D w e' w':=h.elim id (fun g=>absurd g.1 hN)
section
variable {b:Bdy} {bh:BH} {w:World} {n b0 b1 b2 b3:Nat} {E:Nat->List Int} {F:Nat->Value} {EV:Nat->Option Nat × Int × Bool} {m:Nat} {L:Int->List Int} {MB:Nat->Nat} {W W':World}
theorem LcW.ks (h:LcW b bh w n b0 b1 b2 b3 E F EV m L MB W) (hk:Ks W W') (hb:Below w.heap.size w W'):LcW b bh w n b0 b1 b2 b3 E F EV m L MB W':=
 ⟨hk.same _ _ h.box (show 59≠42 by decide),h.bef.ks (by decide) (by decide) hk,h.eff.ks (by decide) hk,h.liv.ks (by decide) hk,fun j hj=>(h.maps j hj).ks hk,h.apart,hb,h.lts,h.hi⟩
theorem LcW.keep (h:LcW b bh w n b0 b1 b2 b3 E F EV m L MB W) (hb:Below W.heap.size W W'):LcW b bh w n b0 b1 b2 b3 E F EV m L MB W':=
 h.ks (.of_below hb) (h.low.trans (hb.mono h.low.size))
theorem LcW.cell (h:LcW b bh w n b0 b1 b2 b3 E F EV m L MB W) (i:Nat) (u:Value) (hi:([Value.string b.name,.slice bh.A1 b.regions.length bh.c1,.slice bh.A2 b.outl.length bh.c2,.slice bh.A3 b.types.length bh.c3,.slice bh.A4 b.locals.length bh.c4,.int .i64 b.args,.slice bh.A5 b.blocks.length bh.c5])[i]?=some u):W.cell? ⟨w.heap.size,i,none⟩=some u:=by
 have:([Value.string b.name,.slice bh.A1 b.regions.length bh.c1,.slice bh.A2 b.outl.length bh.c2,.slice bh.A3 b.types.length bh.c3,.slice bh.A4 b.locals.length bh.c4,.int .i64 b.args,.slice bh.A5 b.blocks.length bh.c5]).toArray[i]?=some u:=by simpa using hi
 simp only [World.cell?,h.box];exact this
theorem LcW.grow (h:LcW b bh w n b0 b1 b2 b3 E F EV m L MB W) {base:Nat} {v:Value} {k:Nat} {xs:List Value} (ho:W.ownsRow base 42 2 v k xs) (hg:W.grownBy W' v.ownBlock) (hbase:w.heap.size<=base):LcW b bh w n b0 b1 b2 b3 E F EV m L MB W':=
 h.ks (.grow ho hg) (h.low.grown hg h.low.size (fun g hge=>by have:=(ho.lt g hge).1;omega))
theorem LcW.iter (h:LcW b bh w n b0 b1 b2 b3 E F EV m L MB W) {r:Nat} {m' s t c} (hr:W.heap[r]?=some (.mapIter m' s t c)) (hg:W.grownBy W' (some r)) (hlo:w.heap.size<=r):LcW b bh w n b0 b1 b2 b3 E F EV m L MB W':=
 h.ks (.iter hr hg) (h.low.grown hg h.low.size (fun g hge=>by injection hge with hge;omega))
theorem LcW.lset (h:LcW b bh w n b0 b1 b2 b3 E F EV m L MB W) (hL:L m=[]) {g:Nat} (ho:OwnI W g 1000000 []) (hne:∀j,j<m->MB j≠g) (hg:w.heap.size<g):LcW b bh w n b0 b1 b2 b3 E F EV (m+1) L (updM MB m g) (W.setCell ⟨b3,m,none⟩ (.map (some g))):=by
 have hr:W.heap[b3]?=some (.cells (rowA n (lvF MB m)) 198 (0,0)):=h.liv;have hk:∀k,k≠b3->(W.setCell ⟨b3,m,none⟩ (.map (some g))).heap[k]?=W.heap[k]?:=fun k hk=>bJ W ⟨b3,m,none⟩ _ k hk
 have h3:=h.lts;refine ⟨(hk _ (by omega)).trans h.box,h.bef.set_other (p:=⟨b3,m,none⟩) hr (by decide) (by decide) _,h.eff.set_other (p:=⟨b3,m,none⟩) hr (by decide) _,(h.liv.set m _).congr (fun j _=>xCT MB m g j),fun j hj=>?_,fun i j hi hj e=>?_,h.low.setCell (by simp;omega) _,h.lts,fun j hj=>?_⟩
 ·unfold updM;by_cases e:j=m
  ·subst e;rw [bD rfl,hL];exact ho.set (p:=⟨b3,j,none⟩) hr _
  ·rw [bB e];exact (h.maps j (by omega)).set (p:=⟨b3,m,none⟩) hr _
 ·unfold updM at e;by_cases e1:i=m <;> by_cases e2:j=m
  ·omega
  ·rw [bD e1,bB e2] at e;exact absurd e.symm (hne j (by omega))
  ·rw [bB e1,bD e2] at e;exact absurd e (hne i (by omega))
  ·rw [bB e1,bB e2] at e;exact h.apart i j (by omega) (by omega) e
 ·unfold updM;by_cases e:j=m
  ·rw [bD e];exact hg
  ·rw [bB e];exact h.hi j (by omega)
theorem LcW.eset (h:LcW b bh w n b0 b1 b2 b3 E F EV m L MB W) (p:Nat) (mp:Option Nat) (d:Int) (hd:Bool):LcW b bh w n b0 b1 b2 b3 E F (updE EV p (mp,d,hd)) m L MB (((W.setCell ⟨b2,p * 3,none⟩ (.map mp)).setCell ⟨b2,p * 3+1,none⟩ (.int .i64 d)).setCell ⟨b2,p * 3+2,none⟩ (.bool hd)):=by
 have key:∀(W:World) (G:Nat->Value) (j:Nat) (u:Value),W.heap[w.heap.size]?=some (.cells ((bdH b bh [])).toArray 59 (0,0))/\RowsI W b0 b1 n 48 E F/\RowF W b2 (n * 3) 200 G/\RowF W b3 n 198 (lvF MB m)/\(∀j,j<m->OwnI W (MB j) 1000000 (L j))/\Below w.heap.size w W->
  (W.setCell ⟨b2,j,none⟩ u).heap[w.heap.size]?=some (.cells ((bdH b bh [])).toArray 59 (0,0))/\RowsI (W.setCell ⟨b2,j,none⟩ u) b0 b1 n 48 E F/\RowF (W.setCell ⟨b2,j,none⟩ u) b2 (n * 3) 200 (updF1 G j u)/\RowF (W.setCell ⟨b2,j,none⟩ u) b3 n 198 (lvF MB m)/\(∀i,i<m->OwnI (W.setCell ⟨b2,j,none⟩ u) (MB i) 1000000 (L i))/\Below w.heap.size w (W.setCell ⟨b2,j,none⟩ u):=by
  rintro W G j u ⟨x0,x1,x2,x3,x4,x5⟩;have hr:W.heap[b2]?=some (.cells (rowA (n * 3) G) 200 (0,0)):=x2;have h3:=h.lts;exact ⟨(bJ W ⟨b2,j,none⟩ _ _ (by simp;omega)).trans x0,x1.set_other (p:=⟨b2,j,none⟩) hr (by decide) (by decide) _,x2.set j u,x3.set_other (p:=⟨b2,j,none⟩) hr (by decide) _,fun i hi=>(x4 i hi).set (p:=⟨b2,j,none⟩) hr _,x5.setCell (by simp;omega) _⟩
 obtain ⟨g0,g1,g2,g3,g4,g5⟩:=key _ _ (p * 3+2) (.bool hd) (key _ _ (p * 3+1) (.int .i64 d) (key _ _ (p * 3) (.map mp) ⟨h.box,h.bef,h.eff,h.liv,h.maps,h.low⟩));exact ⟨g0,g1,g2.congr (fun j _=>xDI EV p mp d hd j),g3,g4,h.apart,g5,h.lts,h.hi⟩
theorem LcW.put (h:LcW b bh w n b0 b1 b2 b3 E F EV m L MB W) {p:Nat} (hp:p<m) {x:Int} (hg:W.grownBy W' (some (MB p))) (ho:OwnI W' (MB p) 1000000 (x :: L p)):LcW b bh w n b0 b1 b2 b3 E F EV m (addL L p x) MB W':=by
 obtain ⟨es,c,hm⟩:=(h.maps p hp).obj;have hk:∀(k:Nat) (o:Obj),W.heap[k]?=some o->k≠MB p->W'.heap[k]?=some o:=fun k o a e=>(hg.block k (Array.getElem?_eq_some_iff.1 a).1 (fun e'=>by injection e' with e';exact e e')).trans a
 have hc:∀(k:Nat) (cs:Array Value) (t:TypeId) (z:Nat × Nat),W.heap[k]?=some (.cells cs t z)->W'.heap[k]?=some (.cells cs t z):=fun k cs t z a=>hk k _ a (fun e=>by subst e;rw [hm] at a;cases a)
 have h3:=h.lts;have h4:=h.hi p hp
 refine ⟨hc _ _ _ _ h.box,⟨hc _ _ _ _ h.bef.head,fun j=>dC (h.bef.rows j) (fun k _ _ hv=>by
  obtain ⟨cur,hcu⟩:=fH (h.bef.rows j) hv.symm
  exact (hc _ _ _ _ hcu).trans hcu.symm),h.bef.apart,h.bef.lblk,cA h.bef.low hg.size⟩,hc _ _ _ _ h.eff,hc _ _ _ _ h.liv,fun j hj=>?_,h.apart,h.low.grown hg h.low.size (fun g hge=>by injection hge with hge;omega),h.lts,h.hi⟩
 unfold addL;by_cases e:(j:Int)=(p:Int)
 ·rw [bD e];obtain rfl:j=p:=by omega
  exact ho
 ·rw [bB e];obtain ⟨es',c',hm'⟩:=(h.maps j hj).obj;exact (h.maps j hj).block ((hk _ _ hm' (fun e'=>e (by rw [h.apart j p hj hp e']))).trans hm'.symm)
theorem LcW.eset_map (h:LcW b bh w n b0 b1 b2 b3 E F EV m L MB W) {x k:Nat} {sl:List Int} (ho:OwnI W x k sl) (p:Nat) (u0 u1 u2:Value):OwnI (((W.setCell ⟨b2,p * 3,none⟩ u0).setCell ⟨b2,p * 3+1,none⟩ u1).setCell ⟨b2,p * 3+2,none⟩ u2) x k sl:=by
 have hr:W.heap[b2]?=some (.cells (rowA (n * 3) (efF EV)) 200 (0,0)):=h.eff;have h1:=(h.eff.set (p * 3) u0);have h2:=(h1.set (p * 3+1) u1);exact ((ho.set (p:=⟨b2,p * 3,none⟩) hr u0).set (p:=⟨b2,p * 3+1,none⟩) h1 u1).set (p:=⟨b2,p * 3+2,none⟩) h2 u2
theorem LcW.eset_row (h:LcW b bh w n b0 b1 b2 b3 E F EV m L MB W) {base k:Nat} {v:Value} {xs:List Value} (ho:W.ownsRow base 42 2 v k xs) (p:Nat) (u0 u1 u2:Value):(((W.setCell ⟨b2,p * 3,none⟩ u0).setCell ⟨b2,p * 3+1,none⟩ u1).setCell ⟨b2,p * 3+2,none⟩ u2).ownsRow base 42 2 v k xs:=by
 have hr:W.heap[b2]?=some (.cells (rowA (n * 3) (efF EV)) 200 (0,0)):=h.eff;have h1:=(h.eff.set (p * 3) u0);have h2:=(h1.set (p * 3+1) u1);exact lK (p:=⟨b2,p * 3+2,none⟩) (lK (p:=⟨b2,p * 3+1,none⟩) (lK (p:=⟨b2,p * 3,none⟩) ho hr (by decide) u0) h1 (by decide) u1) h2 (by decide) u2
theorem LcW.lset_map (h:LcW b bh w n b0 b1 b2 b3 E F EV m L MB W) {x k:Nat} {sl:List Int} (ho:OwnI W x k sl) (p:Nat) (u:Value):OwnI (W.setCell ⟨b3,p,none⟩ u) x k sl:=by
 have hr:W.heap[b3]?=some (.cells (rowA n (lvF MB m)) 198 (0,0)):=h.liv;exact ho.set (p:=⟨b3,p,none⟩) hr u
theorem LcW.lset_row (h:LcW b bh w n b0 b1 b2 b3 E F EV m L MB W) {base k:Nat} {v:Value} {xs:List Value} (ho:W.ownsRow base 42 2 v k xs) (p:Nat) (u:Value):(W.setCell ⟨b3,p,none⟩ u).ownsRow base 42 2 v k xs:=by
 have hr:W.heap[b3]?=some (.cells (rowA n (lvF MB m)) 198 (0,0)):=h.liv;exact lK (p:=⟨b3,p,none⟩) ho hr (by decide) u
theorem LcW.put_row (h:LcW b bh w n b0 b1 b2 b3 E F EV m L MB W) {p:Nat} (hp:p<m) (hg:W.grownBy W' (some (MB p))) {base k:Nat} {v:Value} {xs:List Value} (ho:W.ownsRow base 42 2 v k xs):W'.ownsRow base 42 2 v k xs:=by
 obtain ⟨es,c,hm⟩:=(h.maps p hp).obj;exact iC ho hm (fun _ _ e=>by cases e) hg
theorem LcW.lt2 (h:LcW b bh w n b0 b1 b2 b3 E F EV m L MB W):b2<W.heap.size/\b3<W.heap.size/\b1<W.heap.size/\w.heap.size<W.heap.size:=⟨h.eff.lt,h.liv.lt,h.bef.head.lt,(Array.getElem?_eq_some_iff.1 h.box).1⟩
theorem LcW.frozen2 (h:LcW b bh w n b0 b1 b2 b3 E F EV m L MB W) (k:Nat):W.frozen? ⟨b2,k,none⟩=false:=h.eff.frozen k
theorem LcW.frozen3 (h:LcW b bh w n b0 b1 b2 b3 E F EV m L MB W) (k:Nat):W.frozen? ⟨b3,k,none⟩=false:=h.liv.frozen k
theorem efF0 (EV:Nat->Option Nat × Int × Bool) (p:Nat):efF EV (p * 3) = .map (EV p).1:=by unfold efF;rw [bD (by omega),show p * 3 / 3=p by omega]
theorem efF1 (EV:Nat->Option Nat × Int × Bool) (p:Nat):efF EV (p * 3+1) = .int .i64 (EV p).2.1:=by unfold efF;rw [bB (by omega),bD (by omega),show (p * 3+1) / 3=p by omega]
theorem efF2 (EV:Nat->Option Nat × Int × Bool) (p:Nat):efF EV (p * 3+2) = .bool (EV p).2.2:=by unfold efF;rw [bB (by omega),bB (by omega),show (p * 3+2) / 3=p by omega]
theorem LcW.eff3 (h:LcW b bh w n b0 b1 b2 b3 E F EV m L MB W) {p:Nat} (hp:p<n):W.cell? ⟨b2,p * 3,none⟩=some (.map (EV p).1)/\W.cell? ⟨b2,p * 3+1,none⟩=some (.int .i64 (EV p).2.1)/\W.cell? ⟨b2,p * 3+2,none⟩=some (.bool (EV p).2.2):=
 ⟨by rw [h.eff.cell (by omega),efF0],by rw [h.eff.cell (by omega),efF1],by rw [h.eff.cell (by omega),efF2]⟩
theorem LcW.bef_ (h:LcW b bh w n b0 b1 b2 b3 E F EV m L MB W) {p:Nat} (hp:p<n):∃A c,F p = .slice A (E p).length c/\W.cell? ⟨b1,p,none⟩=some (.slice A (E p).length c):=by
 obtain ⟨A,c,e⟩:=cW (h.bef.rows p);exact ⟨A,c,e,by rw [h.bef.head.cell hp,e]⟩
theorem LcW.befS (h:LcW b bh w n b0 b1 b2 b3 E F EV m L MB W) {p:Nat} {A:Option Addr} {c:Nat} (e:F p = .slice A (E p).length c):Slc 1 RInt W A c (E p):=by
 obtain ⟨A',c',e',hs,_⟩:=gR (R:=RInt) (enc:=Value.int .i64) (fun _ _ _ _ _ h=>h) (h.bef.rows p) rfl;rw [e] at e';injection e' with e1 _ e2
 subst e1 e2;exact hs
theorem LcW.livC (h:LcW b bh w n b0 b1 b2 b3 E F EV m L MB W) {p:Nat} (hp:p<m) (hn:p<n):W.cell? ⟨b3,p,none⟩=some (.map (some (MB p))):=by
 rw [h.liv.cell hn];unfold lvF;rw [bD hp]
end
theorem Eb.prs {W0 W:World} {lc:Nat} (h:Eb W0 lc W) {n:Nat} {T:TypeId} {F:Nat->Value} (hv:RowF W0 lc n T F) (hF:∀j q x,F j ≠ .int q x) {A:Option Addr} {c:Nat} {xs:List (Int × Int)} (hs:Slc 2 RPr W0 A c xs):Slc 2 RPr W A c xs:=by
 refine ⟨fun hn=>?_,hs.le,hs.big⟩;obtain ⟨b,off,hA,hlt,hx⟩:=hs.sl hn;refine ⟨b,off,hA,bP hlt h.size,fun i x hix=>?_⟩;have hc:=hx i x hix
 have hne:b≠lc:=fun e=>by
  subst e;have h1:=hc.1;unfold RowF rowA at hv;unfold World.cell? at h1;rw [hv] at h1;simp only at h1;obtain ⟨hl,he⟩:=Array.getElem?_eq_some_iff.1 h1;rw [Array.getElem_map] at he;exact hF _ _ _ he
 exact ⟨(World.cell?_of_block (a:=⟨b,off+i * 2,none⟩) (h.keep b hlt hne)).trans hc.1,(World.cell?_of_block (a:=⟨b,off+i * 2+1,none⟩) (h.keep b hlt hne)).trans hc.2⟩
theorem RowsI.nil_base {w:World} {base blk n:Nat} {T:TypeId} (h:RowsI w base blk n T (fun _=>[]) (fun _=> .slice none 0 0)):RowsI w w.heap.size blk n T (fun _=>[]) (fun _=> .slice none 0 0):=
 ⟨h.head,fun _=>vE _ _ _ _,h.apart,h.head.lt,bA _⟩
def TF (tr:List Tr) (j:Nat):Value:=match tr[j]? with | some t=>encTr t | none=> .slice none 0 0
theorem xDT (tr:List Tr) (t:Tr) (j:Nat):updF1 (TF tr) tr.length (encTr t) j=TF (tr ++ [t]) j:=by
 unfold updF1 TF;by_cases h:j=tr.length
 ·subst h;rw [bD rfl];simp
 ·rw [bB h];by_cases h2:j<tr.length
  ·rw [List.getElem?_append_left h2]
  ·rw [cG (by omega),cG (by simp;omega)]
theorem xCE {W:World} {A:Option Addr} {c:Nat} {xs:List Int} (h:Slc 1 RInt W A c xs) {g:Nat} (hne:∀a,A=some a->g<a.block) (j:Nat) (v:Value):Slc 1 RInt (W.setCell ⟨g,j,none⟩ v) A c xs:=by
 refine ⟨fun hn=>?_,h.le,h.big⟩;obtain ⟨b,off,hA,hlt,hx⟩:=h.sl hn;refine ⟨b,off,hA,by simpa using hlt,fun i x hix=>?_⟩;have hb:=hne _ hA;simp only at hb;exact (World.cell?_of_block (a:=⟨b,off+i * 1,none⟩) (bJ W ⟨g,j,none⟩ v b (by simp;omega))).trans (hx i x hix)
theorem xCF {W:World} {g n:Nat} {T:TypeId} {tr:List Tr} (h:RowF W g n T (TF tr)) (hl:tr.length=n) (hn:n<=9223372036854775807) (hr:∀t∈tr,Slc 1 RInt W t.1 t.2.2 t.2.1):Slc 1 (RSl 1 RInt) W (some ⟨g,0,none⟩) n (tr.map (·.2.1)):=by
 refine yU (c:=n) ⟨fun _=>⟨g,0,rfl,h.lt,fun i t hi=>?_⟩,by omega,hn⟩ hr;have hi2:=(List.getElem?_eq_some_iff.1 hi).1;have:=h.cell (j:=i) (by omega);unfold TF at this;rw [hi] at this;unfold RTr;simpa using this
end
section
open Go Go.RowKit
theorem xES {w:World} {A:Option Addr} {c:Nat} {ls:List Ln} (h:Slc 5 RLn w A c ls):∃es:List LnE,es.map (·.l)=ls/\(∀e∈es,Slc 2 RPj w e.A e.c e.l.place.proj)/\∀a,A=some a->∀j u,(es.flatMap lnE)[j]?=some u->w.cell? (a.add j)=some u:=by
 have key:∀k,k<=ls.length->∃es:List LnE,es.map (·.l)=ls.take k/\(∀e∈es,Slc 2 RPj w e.A e.c e.l.place.proj)/\∀i e,es[i]?=some e->∃b o,A=some ⟨b,o,none⟩/\∀j u,(lnE e)[j]?=some u->w.cell? ⟨b,o+i * 5+j,none⟩=some u:=by
  intro k;induction k with
  | zero=>intro _;exact ⟨[],by simp,by simp,by simp⟩
  | succ k ih=>
    intro hk;obtain ⟨es,h1,h2,h3⟩:=ih (by omega);obtain ⟨b,o,hA,hb,y0,y1,y2,y3,PA,pc,y4,p1,p2,p3⟩:=h.sl.at_ (show k<ls.length by omega)
    have hl:es.length=k:=by
     have:=congrArg List.length h1;rw [cH,cO] at this;omega
    refine ⟨es ++ [⟨ls[k],PA,pc⟩],by rw [bV,h1,bH (by omega)];rfl,fun e he=>?_,fun i e he=>?_⟩
    ·rcases List.mem_append.1 he with he | he
     ·exact h2 e he
     ·rw [bU] at he;subst he;exact ⟨p3,p1,p2⟩
    ·by_cases hi:i<es.length
     ·rw [List.getElem?_append_left hi] at he;exact h3 i e he
     ·have hlt:=(List.getElem?_eq_some_iff.1 he).1;simp only [bE,cI] at hlt;have he2:(es ++ [(⟨ls[k],PA,pc⟩:LnE)])[es.length]?=some ⟨ls[k],PA,pc⟩:=List.getElem?_concat_length ..;have hi2:i=es.length:=(by omega);rw [hi2,he2] at he;injection he with he
      subst he;rw [hi2,hl];refine ⟨b,o,hA,fun j u hu=>?_⟩;match j,hu with
      | 0,hu=>simp [lnE,lnC] at hu;subst hu;exact y0
      | 1,hu=>simp [lnE,lnC] at hu;subst hu;exact y1
      | 2,hu=>simp [lnE,lnC] at hu;subst hu;exact y2
      | 3,hu=>simp [lnE,lnC] at hu;subst hu;exact y3
      | 4,hu=>simp [lnE,lnC] at hu;subst hu;exact y4
      | j+5,hu=>simp [lnE,lnC] at hu
 obtain ⟨es,h1,h2,h3⟩:=key ls.length (bA _);refine ⟨es,by rw [h1,cB],h2,fun a ha j u hu=>?_⟩
 have hlen:∀ys:List LnE,(ys.flatMap lnE).length=ys.length * 5:=fun ys=>by
  induction ys with
  | nil=>rfl
  | cons y r ih=>rw [List.flatMap_cons,bE,ih];simp [lnE,lnC];omega
 have hj:=(List.getElem?_eq_some_iff.1 hu).1;rw [hlen] at hj;have hi:j / 5<es.length:=by omega
 have he:=bF hi;have hf:=fJ (k:=5) lnE (fun _=>rfl) es (j / 5) _ he (j % 5) (by omega);rw [show j / 5 * 5+j % 5=j by omega,hu] at hf;obtain ⟨b,o,hA,hc⟩:=h3 _ _ he;rw [ha] at hA;injection hA with hA
 subst hA;rw [Addr.add_lit];have:=hc (j % 5) u hf.symm;have e2:j / 5 * 5+j % 5=j:=by omega
 rw [Nat.add_assoc,e2] at this;exact this
theorem zS (ys:List LnE):(ys.flatMap lnE).length=ys.length * 5:=by
 induction ys with
 | nil=>rfl
 | cons y r ih=>rw [List.flatMap_cons,bE,ih];simp [lnE,lnC];omega
theorem zR {ys:List LnE}:∀u∈ys.flatMap lnE,u.oneCell'=true:=fun u hu=>by
 obtain ⟨e,_,he⟩:=List.mem_flatMap.1 hu;simp [lnE,lnC] at he;rcases he with rfl | rfl | rfl | rfl | rfl <;> rfl
theorem uS (xs:List (Int × Int)):(xs.flatMap prC).length=xs.length * 2:=by
 induction xs with
 | nil=>rfl
 | cons y r ih=>rw [List.flatMap_cons,bE,ih];simp [prC];omega
theorem xCK {xs:List (Int × Int)}:∀u∈xs.flatMap prC,u.oneCell'=true:=fun u hu=>by
 obtain ⟨p,_,hp⟩:=List.mem_flatMap.1 hu;simp [prC] at hp;rcases hp with rfl | rfl <;> rfl
theorem uT {w:World} {a:Addr} {c:Nat} {xs:List (Int × Int)} (h:Slc 2 RPr w (some a) c xs):∀j u,(xs.flatMap prC)[j]?=some u->w.cell? (a.add j)=some u:=fun j u hu=>by
 have hj:=(List.getElem?_eq_some_iff.1 hu).1;rw [uS] at hj;have hi:j / 2<xs.length:=by omega
 obtain ⟨b,o,hA,-,x0,x1⟩:=h.sl.at_ hi;injection hA with hA
 subst hA;have hf:=fJ (k:=2) prC (fun _=>rfl) xs (j / 2) _ (bF hi) (j % 2) (by omega);rw [show j / 2 * 2+j % 2=j by omega,hu] at hf;rw [Addr.add_lit];rcases (show j % 2=0\/j % 2=1 by omega) with e | e
 ·rw [e] at hf;simp only [prC,aB,cK] at hf;rw [hf];have e2:j / 2 * 2=j:=by omega
  rw [e2] at x0;exact x0
 ·rw [e] at hf;simp only [prC,List.getElem?_cons_succ,aB,cK] at hf;rw [hf];have e2:j / 2 * 2+1=j:=by omega
  rw [Nat.add_assoc,e2] at x1;exact x1
theorem uJ {α : Type} {k:Nat} {R:Rd α} {w:World} {c:Nat} {xs:List α} {A:Option Addr} (h:Slc k R w A c xs) (hA:A=none):xs.length=0:=by
 rcases Nat.eq_zero_or_pos xs.length with h0 | h0
 ·exact h0
 ·obtain ⟨b,o,hA',_⟩:=h.sl h0;rw [hA] at hA';cases hA'
structure CpW (w:World) (ls:List Ln) (A:Option Addr) (c k:Nat) (v1 v2 v3 v4:Value) (W:World):Prop where
 low:Below w.heap.size w W
 box:W.heap[w.heap.size]?=some (.cells #[.slice A ls.length c,v1,v2,v3,v4] 25 (0,0))
 res:W.heap[w.heap.size+1]?=some (.cells z5 25 (0,0))
 le:ls.length<=c/\c<=9223372036854775807
 row:0<ls.length->∃(g:Nat) (cs:Array Value) (es:List LnE),A=some ⟨g,0,none⟩/\w.heap.size+1<g/\W.heap[g]?=some (.cells cs 38 (0,0))/\es.map (·.l)=ls/\(∀i e,es[i]?=some e->∀j u,(lnE e)[j]?=some u->cs[i * 5+j]?=some u)/\∀e∈es,Slc 2 RPj W e.A e.c e.l.place.proj
theorem CpW.keep {w W W':World} {ls:List Ln} {A:Option Addr} {c k:Nat} {v1 v2 v3 v4:Value} (h:CpW w ls A c k v1 v2 v3 v4 W) (hb:Below W.heap.size W W'):CpW w ls A c k v1 v2 v3 v4 W':=
 ⟨h.low.trans (hb.mono h.low.size),(hb.block _ (Array.getElem?_eq_some_iff.1 h.box).1).trans h.box,(hb.block _ (Array.getElem?_eq_some_iff.1 h.res).1).trans h.res,h.le,fun h0=>by
   obtain ⟨g,cs,es,h1,h2,h3,h4,h5,h6⟩:=h.row h0
   exact ⟨g,cs,es,h1,h2,(hb.block _ (Array.getElem?_eq_some_iff.1 h3).1).trans h3,h4,h5,fun e he=>(h6 e he).keep RPj.keeps hb⟩⟩
theorem CpW.slc {w W:World} {ls:List Ln} {A:Option Addr} {c k:Nat} {v1 v2 v3 v4:Value} (h:CpW w ls A c k v1 v2 v3 v4 W):Slc 5 RLn W A c ls:=
 ⟨fun h0=>by
   obtain ⟨g,cs,es,h1,h2,h3,h4,h5,h6⟩:=h.row h0;refine ⟨g,0,h1,(Array.getElem?_eq_some_iff.1 h3).1,fun i x hx=>?_⟩;rw [<- h4,cP] at hx;obtain ⟨e,he,rfl⟩:=Option.map_eq_some_iff.1 hx
   have hc:∀j u,(lnE e)[j]?=some u->W.cell? ⟨g,0+i * 5+j,none⟩=some u:=fun j u hu=>by
    have:=h5 i e he j u hu;rw [Nat.zero_add];simp [World.cell?,h3,this]
   have hs:=h6 e (List.mem_of_getElem? he)
   exact ⟨hc 0 _ rfl,hc 1 _ rfl,hc 2 _ rfl,hc 3 _ rfl,e.A,e.c,hc 4 _ rfl,hs.le,hs.big,hs.sl⟩,h.le.1,h.le.2⟩
theorem CpW.put {w W W':World} {ls:List Ln} {A:Option Addr} {c k:Nat} {v1 v2 v3 v4:Value} (h:CpW w ls A c k v1 v2 v3 v4 W) (hk:k<ls.length) {g:Nat} (hA:A=some ⟨g,0,none⟩) {A':Option Addr} {c':Nat} (hs:Slc 2 RPj W A' c' ls[k].place.proj) (hW:W.setCell ⟨g,k * 5+4,none⟩ (.slice A' ls[k].place.proj.length c')=W'):CpW w ls A c (k+1) v1 v2 v3 v4 W'/\W.frozen? ⟨g,k * 5+4,none⟩=false/\(∃v,W.cell? ⟨g,k * 5+4,none⟩=some v):=by
 obtain ⟨g',cs,es,h1,h2,h3,h4,h5,h6⟩:=h.row (by omega);rw [hA] at h1;injection h1 with h1
 injection h1 with h1 _ _
 subst h1;have hlen:es.length=ls.length:=by rw [<- h4,cH]
 have he:=bF (show k<es.length by omega)
 have hlk:es[k].l=ls[k]:=by
  have:(es.map (·.l))[k]?=ls[k]?:=by rw [h4]
  rw [cP,he,bF hk] at this;exact Option.some.inj this
 have hc4:=h5 k _ he 4 _ rfl;have hblk:∀j,j≠g->W'.heap[j]?=W.heap[j]?:=fun j hj=>by rw [<- hW];exact bJ _ _ _ _ hj
 have hsz:W'.heap.size=W.heap.size:=by rw [<- hW];simp
 have hg:W'.heap[g]?=some (.cells (cs.setIfInBounds (k * 5+4) (.slice A' ls[k].place.proj.length c')) 38 (0,0)):=by
  rw [<- hW];simp [World.setCell,Array.getElem?_modify,h3]
 have hne:∀{A2:Option Addr} {c2:Nat} {xs:List Pj},Slc 2 RPj W A2 c2 xs->Slc 2 RPj W' A2 c2 xs:=fun {A2 c2 xs} hx=>⟨fun h0=>by
  obtain ⟨b,o,hA2,hlt,hy⟩:=hx.sl h0
  have hcell:∀(o':Nat) (u:Int),W.cell? ⟨b,o',none⟩=some (.int .i64 u)->W'.cell? ⟨b,o',none⟩=some (.int .i64 u):=fun o' u hu=>by
   by_cases e:b=g
   ·subst e;have hcs:cs[o']?=some (.int .i64 u):=by simpa [World.cell?,h3] using hu
    have hno:o'≠k * 5+4:=fun e'=>by
     subst e';rw [hc4] at hcs;cases hcs
    simp [World.cell?,hg,hno.symm,hcs]
   ·exact (World.cell?_of_block (a:=⟨b,o',none⟩) (hblk b e)).trans hu
  exact ⟨b,o,hA2,by omega,fun i x hi=>⟨hcell _ _ (hy i x hi).1,hcell _ _ (hy i x hi).2⟩⟩,hx.le,hx.big⟩
 refine ⟨⟨by rw [<- hW];exact h.low.setCell (p:=⟨g,k * 5+4,none⟩) (by simp only;omega) _,(hblk _ (by omega)).trans h.box,(hblk _ (by omega)).trans h.res,h.le,fun _=>⟨g,_,es.set k ⟨ls[k],A',c'⟩,hA,h2,hg,?_,?_,?_⟩⟩,by simp [World.frozen?,h3],⟨_,by simp [World.cell?,h3,hc4];rfl⟩⟩
 ·rw [List.map_set,h4];simp
 ·intro i e hi j u hu;by_cases e1:i=k
  ·subst e1;rw [List.getElem?_set_self (by omega)] at hi;injection hi with hi
   subst hi;have h5':=h5 i _ he;rw [Array.getElem?_setIfInBounds];match j,hu with
   | 0,hu=>rw [bB (by omega)];refine h5' 0 u ?_;simp [lnE,lnC] at hu ⊢;rw [<- hu,hlk]
   | 1,hu=>rw [bB (by omega)];refine h5' 1 u ?_;simp [lnE,lnC] at hu ⊢;rw [<- hu,hlk]
   | 2,hu=>rw [bB (by omega)];refine h5' 2 u ?_;simp [lnE,lnC] at hu ⊢;rw [<- hu,hlk]
   | 3,hu=>rw [bB (by omega)];refine h5' 3 u ?_;simp [lnE,lnC] at hu ⊢;rw [<- hu,hlk]
   | 4,hu=>
     simp [lnE,lnC] at hu;rw [bD rfl,bD (Array.getElem?_eq_some_iff.1 hc4).1,hu]
   | j+5,hu=>simp [lnE,lnC] at hu
  ·rw [List.getElem?_set_ne (fun e'=>e1 e'.symm)] at hi
   rw [Array.getElem?_setIfInBounds,bB (fun e'=>by
    have hj:j<5:=(List.getElem?_eq_some_iff.1 hu).1
    omega)]
   exact h5 i e hi j u hu
 ·intro e he';rcases List.mem_or_eq_of_mem_set he' with h' | rfl
  ·exact hne (h6 e h')
  ·exact hne hs
end
section
open Go Go.RowKit
attribute [local irreducible] Calls
structure SmF (f:Fct):Prop where
 ln:f.loans.length<=1000000
 ed:f.edges.length<=1000000
 ki:f.killed.length<=1000000
 iv:f.inval.length<=1000000
 li:f.live.length<=1000000
 pj:∀l∈f.loans,l.place.proj.length<=1000000
theorem kI (xs:List (Int × Int)) (A:Option Addr) (c:Nat) (w:World) (h:Slc 2 RPr w A c xs) (hl:xs.length<=1000000):
 Calls Tryz.prog 45 #[.slice A xs.length c] w fun e' w'=>∃A' c',e' = .returned (.slice A' xs.length c')/\Slc 2 RPr w' A' c' xs/\Below w.heap.size w w':=by
 refine (qK xs.length (xs.flatMap prC) A c w (uS xs) xCK (fun a ha=>uT (ha ▸ h)) (uJ h) ⟨h.le,h.big⟩ hl).mono ?_;rintro e w1 ⟨v,rfl,ho,hb⟩;obtain ⟨A',c',rfl,hs⟩:=kQ ho rfl;exact ⟨A',c',rfl,hs,hb⟩
theorem xAT (xs:List Pj) (A:Option Addr) (c:Nat) (w:World) (h:Slc 2 RPj w A c xs) (hl:xs.length<=1000000):
 Calls Tryz.prog 44 #[.slice A xs.length c] w fun e' w'=>∃A' c',e' = .returned (.slice A' xs.length c')/\Slc 2 RPj w' A' c' xs/\Below w.heap.size w w':=by
 refine (lY xs.length (xs.flatMap pjC) A c w (uW xs) uV (fun a ha=>oP (ha ▸ h)) (uJ h) ⟨h.le,h.big⟩ hl).mono ?_;rintro e w1 ⟨v,rfl,ho,hb⟩;obtain ⟨A',c',rfl,hs,-⟩:=uI ho rfl;exact ⟨A',c',rfl,hs,hb⟩
theorem xAU (ls:List Ln) (A:Option Addr) (c:Nat) (w W:World) (h:Slc 5 RLn w A c ls) (hb0:Below w.heap.size w W) (hl:ls.length<=1000000):
 Calls Tryz.prog 43 #[.slice A ls.length c] W fun e' w'=>∃A' c',e' = .returned (.slice A' ls.length c')/\(ls.length<=c'/\c'<=9223372036854775807)/\(0<ls.length->∃(g:Nat) (cs:Array Value) (es:List LnE),A'=some ⟨g,0,none⟩/\W.heap.size<=g/\w'.heap[g]?=some (.cells cs 38 (0,0))/\es.map (·.l)=ls/\(∀i e,es[i]?=some e->∀j u,(lnE e)[j]?=some u->cs[i * 5+j]?=some u)/\∀e∈es,Slc 2 RPj w' e.A e.c e.l.place.proj)/\Below W.heap.size W w':=by
 obtain ⟨es,he,hp,hc⟩:=xES h;have hlen:es.length=ls.length:=by rw [<- he,cH]
 refine (qL ls.length (es.flatMap lnE) A c W (by rw [zS,hlen]) zR (fun a ha j u hu=>cQ hb0 (hc a ha j u hu)) (uJ h) ⟨h.le,h.big⟩ hl).mono ?_;rintro e w1 ⟨v,rfl,ho,hb⟩;have hbw:=hb0.trans (hb.mono hb0.size);rcases ho.2 with ⟨h1,hz⟩ | ⟨g,cap,cur,rfl,hg,hh,hnc,hm,_,_⟩
 ·exact ⟨none,0,by rw [h1,hz],⟨by omega,by omega⟩,fun h0=>by omega,hb⟩
 ·refine ⟨some ⟨g,0,none⟩,cap,rfl,⟨hnc,by simp only [maxLen] at hm;omega⟩,fun _=>⟨g,cur,es,rfl,hg,hh,he,fun i e hi j u hu=>?_,fun e hm'=>(hp e hm').keep RPj.keeps hbw⟩,hb⟩;have hj:j<5:=(List.getElem?_eq_some_iff.1 hu).1;have hf:=fJ (k:=5) lnE (fun _=>rfl) es i e hi j hj;rw [hu] at hf;have hc2:=ho.cells (g:=g) rfl (i * 5+j) u hf;rw [add0] at hc2;simpa [World.cell?,hh] using hc2
theorem zD (f:Fct) (fh:FH) (w:World) (H:FcAt w f fh) (hf:SmF f):
 Calls Tryz.prog 18 #[.agg (fcC f fh).toArray] w fun e' w'=>∃nh,e' = .returned (.agg (fcC f nh).toArray)/\FcAt w' f nh/\Below w.heap.size w w':=by
 obtain ⟨A0,a0,A1,a1,A2,a2,A3,a3,A4,a4⟩:=fh;obtain ⟨p0,p1,p2,p3,p4⟩:=H;obtain ⟨fl,fe,fk,fi,fv⟩:=f;obtain ⟨s0,s1,s2,s3,s4,s5⟩:=hf;simp only at *;have HCL:=aH (fun (W:World) (hb:Below w.heap.size w W)=>xAU fl A0 a0 w W p0 hb s0);have HC1:=aH (fun (W:World) (hb:Below w.heap.size w W)=>kI fe A1 a1 W (p1.keep RPr.keeps hb) s1);have HC2:=aH (fun (W:World) (hb:Below w.heap.size w W)=>kI fk A2 a2 W (p2.keep RPr.keeps hb) s2);have HC3:=aH (fun (W:World) (hb:Below w.heap.size w W)=>kI fi A3 a3 W (p3.keep RPr.keeps hb) s3);have HC4:=aH (fun (W:World) (hb:Below w.heap.size w W)=>kI fv A4 a4 W (p4.keep RPr.keeps hb) s4);have HS5:=aH s5;clear p0 p1 p2 p3 p4 s0 s1 s2 s3 s4 s5;obtain ⟨W0,hW0⟩:∃W0,(w.alloc (.cells ([Value.slice A0 fl.length a0,.slice A1 fe.length a1,.slice A2 fk.length a2,.slice A3 fi.length a3,.slice A4 fv.length a4]).toArray 25)).alloc (.cells #[.slice none 0 0,.slice none 0 0,.slice none 0 0,.slice none 0 0,.slice none 0 0] 25)=W0:=⟨_,rfl⟩;have hb0:Below w.heap.size w W0:=by rw [<- hW0];exact bel2 _ _ _
 have hz0:W0.heap.size=w.heap.size+1+1:=by rw [<- hW0];simp
 have h1:W0.heap[w.heap.size+1]?=some (.cells z5 25 (0,0)):=by
  rw [<- hW0];have:=heap_alloc_new (w.alloc (.cells ([Value.slice A0 fl.length a0,.slice A1 fe.length a1,.slice A2 fk.length a2,.slice A3 fi.length a3,.slice A4 fv.length a4]).toArray 25)) (.cells #[.slice none 0 0,.slice none 0 0,.slice none 0 0,.slice none 0 0,.slice none 0 0] 25);rwa [bK] at this
 have h0:W0.heap[w.heap.size]?=some (.cells ([Value.slice A0 fl.length a0,.slice A1 fe.length a1,.slice A2 fk.length a2,.slice A3 fi.length a3,.slice A4 fv.length a4]).toArray 25 (0,0)):=by
  rw [<- hW0,Below.heap_alloc _ _ _ (by simp only [bK];omega)];exact heap_alloc_new w _
 have x0:=cR (l:=[Value.slice A0 fl.length a0,.slice A1 fe.length a1,.slice A2 fk.length a2,.slice A3 fi.length a3,.slice A4 fv.length a4]) h0 0 _ rfl;have HB0:=aH hb0;have HZ0:=aH hz0;have H0:=aH h0;have H1:=aH h1;clear hb0 hz0 h0 h1;unfold fcC;simp only;go_enter Tryz.func18,Tryz.ntmps18
 go_wp2_with (go_at_call 43;refine (HCL.out _ HB0.out).mono ?_;rintro e' w1 ⟨NA,nc,rfl,hnc,hrow,hb1⟩;have hr1:=(hb1.block _ (Array.getElem?_eq_some_iff.1 H0.out).1).trans H0.out;have hr2:=(hb1.block _ (Array.getElem?_eq_some_iff.1 H1.out).1).trans H1.out;have HB1:=aH (HB0.out.trans (hb1.mono HB0.out.size));have HR1:=aH hr1;have HR2:=aH hr2;have HNC:=aH hnc;have HRW:=aH hrow;replace x0:=cR (l:=[Value.slice A0 fl.length a0,.slice A1 fe.length a1,.slice A2 fk.length a2,.slice A3 fi.length a3,.slice A4 fv.length a4]) hr1 0 _ rfl;have xf:∀i,w1.frozen? ⟨w.heap.size,i,none⟩=false:=(fun i=>by simp [World.frozen?,hr1]);obtain ⟨W2,hW2⟩:∃W2,w1.setCell ⟨w.heap.size,0,none⟩ (.slice NA fl.length nc)=W2:=⟨_,rfl⟩;have hr3:W2.heap[w.heap.size]?=some (.cells ([Value.slice NA fl.length nc,.slice A1 fe.length a1,.slice A2 fk.length a2,.slice A3 fi.length a3,.slice A4 fv.length a4]).toArray 25 (0,0)):=(by rw [<- hW2];simp [World.setCell,Array.getElem?_modify,hr1]);have y0:=cR (l:=[Value.slice NA fl.length nc,.slice A1 fe.length a1,.slice A2 fk.length a2,.slice A3 fi.length a3,.slice A4 fv.length a4]) hr3 0 _ rfl;have HW2:=aH hW2;have HR3:=aH hr3;clear hnc hrow hb1 hr1 hr2 hr3)
 have HW:Hid (CpW w fl NA nc 0 (.slice A1 fe.length a1) (.slice A2 fk.length a2) (.slice A3 fi.length a3) (.slice A4 fv.length a4) W2):=aH (by
  have hE:Eb w1 w.heap.size W2:=by rw [<- HW2.out];exact (Eb.refl _ _).set 0 _
  have hz:=(Array.getElem?_eq_some_iff.1 HR2.out).1;refine ⟨by rw [<- HW2.out];exact HB1.out.setCell (p:=⟨w.heap.size,0,none⟩) (by simp only;omega) _,HR3.out,(hE.keep _ hz (by omega)).trans HR2.out,HNC.out,fun h0=>?_⟩;obtain ⟨g,cs,es,h1,h2,h3,h4,h5,h6⟩:=HRW.out h0;have hg:=HZ0.out
  exact ⟨g,cs,es,h1,by omega,(hE.keep _ (Array.getElem?_eq_some_iff.1 h3).1 (by omega)).trans h3,h4,h5,fun e he=>xBP hE HR1.out (gK _ _ _ _ _ _ _ _ _ _ _ _ _ _ _) (h6 e he)⟩)
 have hnl:=HNC.out.1;have hnb:=HNC.out.2;clear HW2 HR1 HR2 HR3 HB1 HNC HRW HB0 HZ0 H0 H1 hW0 hW2 x0 xf HCL;go_loopw [11] (fun i wr=>∃k:Nat,i = .int .i64 k/\k<=fl.length/\Hid (CpW w fl NA nc k (.slice A1 fe.length a1) (.slice A2 fk.length a2) (.slice A3 fi.length a3) (.slice A4 fv.length a4) wr)) (fun i _=>fl.length - (intOf i).toNat)
 case atStart=>exact ⟨0,rfl,by omega,HW⟩
 case round=>
  clear HW y0;obtain ⟨k,rfl,hk,HW⟩:=hrel;by_cases hlt:k<fl.length
  case pos=>
   obtain ⟨g,cs,es,hNA,-,-,-,-,-⟩:=HW.out.row (by omega);have y0:=cR (l:=[Value.slice NA fl.length nc,.slice A1 fe.length a1,.slice A2 fk.length a2,.slice A3 fi.length a3,.slice A4 fv.length a4]) HW.out.box 0 _ rfl;obtain ⟨b',o',hNA',hb',-,-,-,-,PA,pc,y4,r1,r2,r3⟩:=HW.out.slc.sl.at_ hlt;rw [hNA] at hNA';obtain ⟨rfl,rfl⟩:g=b'/\0=o':=by simpa using hNA'
   rw [Nat.zero_add,Nat.add_assoc] at y4;have HPS:=aH (show Slc 2 RPj wr PA pc fl[k].place.proj from ⟨r3,r1,r2⟩);have hpl:=HS5.out _ (bO hlt);clear r3;subst hNA;go_wp2_with fail
   have hS:wr.drew.cell? ⟨w.heap.size,0,none⟩=some (.slice (some ⟨g,0,none⟩) fl.length nc)/\wr.drew.cell? ⟨g,k * 5+(3+1),none⟩=some (.slice PA fl[k].place.proj.length pc):=⟨y0,y4⟩;refine dJ (S:=fun X=>X.cell? ⟨w.heap.size,0,none⟩=some (.slice (some ⟨g,0,none⟩) fl.length nc)/\X.cell? ⟨g,k * 5+(3+1),none⟩=some (.slice PA fl[k].place.proj.length pc)) 14 [0,1,2,3,4,5,6,7,8,9,10,11,12,13,14] (by kernel_rfl) ?_;(iterate 10 (refine cY (v:=?_) ?_ hS ?_;rotate_left;(next=>(rintro X ⟨q0,q4⟩;(try simp only [aK]);go_simp;rfl));simp only [aO]));have hbd:Below wr.heap.size wr wr.drew:=(aZ _ _).drew;(refine cX (fun K1 hK1=>?_);simp only [aO];rw [bD (by rfl)];go_simp);refine (xAT _ _ _ _ (HPS.out.keep RPj.keeps hbd) hpl).mono ?_;rintro e' w5 ⟨PB,pd,rfl,hs5,hb5⟩;have hbw:=hbd.trans (hb5.mono hbd.size);have hS5:w5.cell? ⟨w.heap.size,0,none⟩=some (.slice (some ⟨g,0,none⟩) fl.length nc)/\w5.cell? ⟨g,k * 5+(3+1),none⟩=some (.slice PA fl[k].place.proj.length pc):=⟨cQ hb5 hS.1,cQ hb5 hS.2⟩;refine hK1.out _ _ (fun _=>hS5) ?_;clear hS;have hS:=hS5;obtain ⟨W6,hW6⟩:∃W6,w5.setCell ⟨g,k * 5+4,none⟩ (.slice PB fl[k].place.proj.length pd)=W6:=⟨_,rfl⟩;obtain ⟨hput,hfz,v6,hv6⟩:=(HW.out.keep hbw).put hlt rfl hs5 hW6;have HPT:=aH hput;clear hput hs5 hbw hb5;(iterate 3 (refine fN (v:=?_) (by kernel_rfl) (fun _ _ _ h=>h) (Or.inl ⟨by rfl,?_⟩) hS ?_;rotate_left;(next=>(rintro X ⟨q0,q4⟩;(try simp only [aK]);go_simp;rfl));simp only [aO]));(refine cX (fun K1 hK1=>?_);simp only [aO];rw [bD (by rfl)];go_simp);refine hK1.out _ _ (fun h=>absurd h (by decide)) ?_;clear hS hS5 hv6 hfz y0 y4;refine dI ?_;go_wp2_with fail
   go_roundw
   case rel=>exact ⟨k+1,by go_num,by omega,HPT⟩
   case measure=>first | (simp [intOf];done) | (simp [intOf];omega)
  case neg=>
   obtain rfl:k=fl.length:=by omega
   have y1:=cR (l:=[Value.slice NA fl.length nc,.slice A1 fe.length a1,.slice A2 fk.length a2,.slice A3 fi.length a3,.slice A4 fv.length a4]) HW.out.box 1 _ rfl;have y2:=cR (l:=[Value.slice NA fl.length nc,.slice A1 fe.length a1,.slice A2 fk.length a2,.slice A3 fi.length a3,.slice A4 fv.length a4]) HW.out.box 2 _ rfl;have y3:=cR (l:=[Value.slice NA fl.length nc,.slice A1 fe.length a1,.slice A2 fk.length a2,.slice A3 fi.length a3,.slice A4 fv.length a4]) HW.out.box 3 _ rfl;have y4:=cR (l:=[Value.slice NA fl.length nc,.slice A1 fe.length a1,.slice A2 fk.length a2,.slice A3 fi.length a3,.slice A4 fv.length a4]) HW.out.box 4 _ rfl;go_wp2_with fail
   have HV0:Hid (CpW w fl NA nc fl.length (.slice A1 fe.length a1) (.slice A2 fk.length a2) (.slice A3 fi.length a3) (.slice A4 fv.length a4) wr.drew):=aH (HW.out.keep (aZ _ _).drew);have hS:wr.drew.cell? ⟨w.heap.size,1,none⟩=some (.slice A1 fe.length a1)/\wr.drew.cell? ⟨w.heap.size,2,none⟩=some (.slice A2 fk.length a2)/\wr.drew.cell? ⟨w.heap.size,3,none⟩=some (.slice A3 fi.length a3)/\wr.drew.cell? ⟨w.heap.size,4,none⟩=some (.slice A4 fv.length a4):=⟨y1,y2,y3,y4⟩;clear HW y1 y2 y3 y4;refine dJ (S:=fun X=>X.cell? ⟨w.heap.size,1,none⟩=some (.slice A1 fe.length a1)/\X.cell? ⟨w.heap.size,2,none⟩=some (.slice A2 fk.length a2)/\X.cell? ⟨w.heap.size,3,none⟩=some (.slice A3 fi.length a3)/\X.cell? ⟨w.heap.size,4,none⟩=some (.slice A4 fv.length a4)) 13 [0,1,3,4,6,7,9,10,2,12,5,8,11,13,14,15,16,17,18,19] (by kernel_rfl) ?_;(iterate 8 (refine cY (v:=?_) ?_ hS ?_;rotate_left;(next=>(rintro X ⟨q1,q2,q3,q4⟩;(try simp only [aK]);go_simp;rfl));simp only [aO]));generalize wr.drew=V0 at *;(refine cX (fun K1 hK1=>?_);simp only [aO];rw [bD (by rfl)];go_simp);refine (HC1.out _ HV0.out.low).mono ?_;rintro e' V1 ⟨B1,d1,rfl,hs1,hb⟩;have HV1:=aH (HV0.out.keep hb);have HS11:=aH hs1;replace hS:=bM (cQ hb hS.1) (bM (cQ hb hS.2.1) (bM (cQ hb hS.2.2.1) (cQ hb hS.2.2.2)));clear hb hs1;refine hK1.out _ _ (fun _=>hS) ?_;((refine fN (v:=?_) (by kernel_rfl) (fun _ _ _ h=>h) (Or.inl ⟨by rfl,?_⟩) hS ?_;rotate_left;(next=>(rintro X ⟨q1,q2,q3,q4⟩;(try simp only [aK]);go_simp;rfl));simp only [aO]))
   (refine cX (fun K1 hK1=>?_);simp only [aO];rw [bD (by rfl)];go_simp);refine (HC2.out _ HV1.out.low).mono ?_;rintro e' V2 ⟨B2,d2,rfl,hs2,hb⟩;have HV2:=aH (HV1.out.keep hb);have HS22:=aH hs2;have HS12:=aH (HS11.out.keep RPr.keeps hb);replace hS:=bM (cQ hb hS.1) (bM (cQ hb hS.2.1) (bM (cQ hb hS.2.2.1) (cQ hb hS.2.2.2)));clear hb hs2;refine hK1.out _ _ (fun _=>hS) ?_;(refine cX (fun K1 hK1=>?_);simp only [aO];rw [bD (by rfl)];go_simp);refine (HC3.out _ HV2.out.low).mono ?_;rintro e' V3 ⟨B3,d3,rfl,hs3,hb⟩;have HV3:=aH (HV2.out.keep hb);have HS33:=aH hs3;have HS13:=aH (HS12.out.keep RPr.keeps hb);have HS23:=aH (HS22.out.keep RPr.keeps hb);replace hS:=bM (cQ hb hS.1) (bM (cQ hb hS.2.1) (bM (cQ hb hS.2.2.1) (cQ hb hS.2.2.2)));clear hb hs3;refine hK1.out _ _ (fun _=>hS) ?_;(refine cX (fun K1 hK1=>?_);simp only [aO];rw [bD (by rfl)];go_simp);refine (HC4.out _ HV3.out.low).mono ?_;rintro e' V4 ⟨B4,d4,rfl,hs4,hb⟩;have HV4:=aH (HV3.out.keep hb);have HS44:=aH hs4;have HS14:=aH (HS13.out.keep RPr.keeps hb);have HS24:=aH (HS23.out.keep RPr.keeps hb);have HS34:=aH (HS33.out.keep RPr.keeps hb);replace hS:=bM (cQ hb hS.1) (bM (cQ hb hS.2.1) (bM (cQ hb hS.2.2.1) (cQ hb hS.2.2.2)));clear hb hs4;refine hK1.out _ _ (fun _=>hS) ?_;have hx0:=HV4.out.box;have E0:=Eb.refl V4 w.heap.size;have c1:=cR (l:=[.slice NA fl.length nc,.slice A1 fe.length a1,.slice A2 fk.length a2,.slice A3 fi.length a3,.slice A4 fv.length a4]) hx0 1 _ rfl;have f1:∀i,V4.frozen? ⟨w.heap.size,i,none⟩=false:=fun i=>by simp [World.frozen?,hx0]
   obtain ⟨X1,hX1⟩:∃X,V4.setCell ⟨w.heap.size,1,none⟩ (.slice B1 fe.length d1)=X:=⟨_,rfl⟩;have hx1:X1.heap[w.heap.size]?=some (.cells ([.slice NA fl.length nc,.slice B1 fe.length d1,.slice A2 fk.length a2,.slice A3 fi.length a3,.slice A4 fv.length a4]).toArray 25 (0,0)):=by rw [<- hX1];simp [World.setCell,Array.getElem?_modify,hx0]
   have E1:Eb V4 w.heap.size X1:=by rw [<- hX1];exact E0.set 1 _
   (refine cX (fun K1 hK1=>?_);simp only [aO];rw [bD (by rfl)];go_simp);refine hK1.out _ _ (fun h=>absurd h (by decide)) ?_;(refine cX (fun K1 hK1=>?_);simp only [aO];rw [bD (by rfl)];go_simp);refine hK1.out _ _ (fun h=>absurd h (by decide)) ?_;have c2:=cR (l:=[.slice NA fl.length nc,.slice B1 fe.length d1,.slice A2 fk.length a2,.slice A3 fi.length a3,.slice A4 fv.length a4]) hx1 2 _ rfl;have f2:∀i,X1.frozen? ⟨w.heap.size,i,none⟩=false:=fun i=>by simp [World.frozen?,hx1]
   obtain ⟨X2,hX2⟩:∃X,X1.setCell ⟨w.heap.size,2,none⟩ (.slice B2 fk.length d2)=X:=⟨_,rfl⟩;have hx2:X2.heap[w.heap.size]?=some (.cells ([.slice NA fl.length nc,.slice B1 fe.length d1,.slice B2 fk.length d2,.slice A3 fi.length a3,.slice A4 fv.length a4]).toArray 25 (0,0)):=by rw [<- hX2];simp [World.setCell,Array.getElem?_modify,hx1]
   have E2:Eb V4 w.heap.size X2:=by rw [<- hX2];exact E1.set 2 _
   (refine cX (fun K1 hK1=>?_);simp only [aO];rw [bD (by rfl)];go_simp);refine hK1.out _ _ (fun h=>absurd h (by decide)) ?_;(refine cX (fun K1 hK1=>?_);simp only [aO];rw [bD (by rfl)];go_simp);refine hK1.out _ _ (fun h=>absurd h (by decide)) ?_;have c3:=cR (l:=[.slice NA fl.length nc,.slice B1 fe.length d1,.slice B2 fk.length d2,.slice A3 fi.length a3,.slice A4 fv.length a4]) hx2 3 _ rfl;have f3:∀i,X2.frozen? ⟨w.heap.size,i,none⟩=false:=fun i=>by simp [World.frozen?,hx2]
   obtain ⟨X3,hX3⟩:∃X,X2.setCell ⟨w.heap.size,3,none⟩ (.slice B3 fi.length d3)=X:=⟨_,rfl⟩;have hx3:X3.heap[w.heap.size]?=some (.cells ([.slice NA fl.length nc,.slice B1 fe.length d1,.slice B2 fk.length d2,.slice B3 fi.length d3,.slice A4 fv.length a4]).toArray 25 (0,0)):=by rw [<- hX3];simp [World.setCell,Array.getElem?_modify,hx2]
   have E3:Eb V4 w.heap.size X3:=by rw [<- hX3];exact E2.set 3 _
   (refine cX (fun K1 hK1=>?_);simp only [aO];rw [bD (by rfl)];go_simp);refine hK1.out _ _ (fun h=>absurd h (by decide)) ?_;(refine cX (fun K1 hK1=>?_);simp only [aO];rw [bD (by rfl)];go_simp);refine hK1.out _ _ (fun h=>absurd h (by decide)) ?_;have c4:=cR (l:=[.slice NA fl.length nc,.slice B1 fe.length d1,.slice B2 fk.length d2,.slice B3 fi.length d3,.slice A4 fv.length a4]) hx3 4 _ rfl;have f4:∀i,X3.frozen? ⟨w.heap.size,i,none⟩=false:=fun i=>by simp [World.frozen?,hx3]
   obtain ⟨X4,hX4⟩:∃X,X3.setCell ⟨w.heap.size,4,none⟩ (.slice B4 fv.length d4)=X:=⟨_,rfl⟩;have hx4:X4.heap[w.heap.size]?=some (.cells ([.slice NA fl.length nc,.slice B1 fe.length d1,.slice B2 fk.length d2,.slice B3 fi.length d3,.slice B4 fv.length d4]).toArray 25 (0,0)):=by rw [<- hX4];simp [World.setCell,Array.getElem?_modify,hx3]
   have E4:Eb V4 w.heap.size X4:=by rw [<- hX4];exact E3.set 4 _
   (refine cX (fun K1 hK1=>?_);simp only [aO];rw [bD (by rfl)];go_simp);refine hK1.out _ _ (fun h=>absurd h (by decide)) ?_;have HX4:=aH hx4;have HE4:=aH E4;have HR4:Hid (X4.heap[w.heap.size+1]?=some (.cells z5 25 (0,0))):=aH ((E4.keep _ (Array.getElem?_eq_some_iff.1 HV4.out.res).1 (by omega)).trans HV4.out.res);have HL4:Hid (Below w.heap.size w X4):=aH (E4.below HV4.out.low (bA _));clear hS c1 c2 c3 c4 f1 f2 f3 f4 hx0 hx1 hx2 hx3 hx4 E0 E1 E2 E3 E4 hX1 hX2 hX3;refine dI ?_;have g0:=cR (l:=[.slice NA fl.length nc,.slice B1 fe.length d1,.slice B2 fk.length d2,.slice B3 fi.length d3,.slice B4 fv.length d4]) HX4.out 0 _ rfl;have g1:=cR (l:=[.slice NA fl.length nc,.slice B1 fe.length d1,.slice B2 fk.length d2,.slice B3 fi.length d3,.slice B4 fv.length d4]) HX4.out 1 _ rfl;have g2:=cR (l:=[.slice NA fl.length nc,.slice B1 fe.length d1,.slice B2 fk.length d2,.slice B3 fi.length d3,.slice B4 fv.length d4]) HX4.out 2 _ rfl;have g3:=cR (l:=[.slice NA fl.length nc,.slice B1 fe.length d1,.slice B2 fk.length d2,.slice B3 fi.length d3,.slice B4 fv.length d4]) HX4.out 3 _ rfl;have g4:=cR (l:=[.slice NA fl.length nc,.slice B1 fe.length d1,.slice B2 fk.length d2,.slice B3 fi.length d3,.slice B4 fv.length d4]) HX4.out 4 _ rfl;have r0:=cR (l:=z5.toList) HR4.out 0 _ rfl;have r1:=cR (l:=z5.toList) HR4.out 1 _ rfl;have r2:=cR (l:=z5.toList) HR4.out 2 _ rfl;have r3:=cR (l:=z5.toList) HR4.out 3 _ rfl;have r4:=cR (l:=z5.toList) HR4.out 4 _ rfl;have rf:∀i,X4.frozen? ⟨w.heap.size+1,i,none⟩=false:=fun i=>by simp [World.frozen?,HR4.out]
   go_wp2_with fail
   obtain ⟨W9,hW9⟩:∃W9,((((X4.setCell ⟨w.heap.size+1,0,none⟩ (.slice NA fl.length nc)).setCell ⟨w.heap.size+1,1,none⟩ (.slice B1 fe.length d1)).setCell ⟨w.heap.size+1,2,none⟩ (.slice B2 fk.length d2)).setCell ⟨w.heap.size+1,3,none⟩ (.slice B3 fi.length d3)).setCell ⟨w.heap.size+1,4,none⟩ (.slice B4 fv.length d4)=W9:=⟨_,rfl⟩;rw [hW9];obtain ⟨e1,e2,e3⟩:=st5 HR4.out _ _ _ _ _ hW9;have u0:=cR (l:=[.slice NA fl.length nc,.slice B1 fe.length d1,.slice B2 fk.length d2,.slice B3 fi.length d3,.slice B4 fv.length d4]) e1 0 _ rfl;have u1:=cR (l:=[.slice NA fl.length nc,.slice B1 fe.length d1,.slice B2 fk.length d2,.slice B3 fi.length d3,.slice B4 fv.length d4]) e1 1 _ rfl;have u2:=cR (l:=[.slice NA fl.length nc,.slice B1 fe.length d1,.slice B2 fk.length d2,.slice B3 fi.length d3,.slice B4 fv.length d4]) e1 2 _ rfl;have u3:=cR (l:=[.slice NA fl.length nc,.slice B1 fe.length d1,.slice B2 fk.length d2,.slice B3 fi.length d3,.slice B4 fv.length d4]) e1 3 _ rfl;have u4:=cR (l:=[.slice NA fl.length nc,.slice B1 fe.length d1,.slice B2 fk.length d2,.slice B3 fi.length d3,.slice B4 fv.length d4]) e1 4 _ rfl;have HB9:=aH (e3 _ _ (by omega) HL4.out);have kp:∀{A:Option Addr} {c:Nat} {xs:List (Int × Int)},Slc 2 RPr V4 A c xs->Slc 2 RPr W9 A c xs:=fun h=>gM e2 HR4.out noZ5 (gM HE4.out HV4.out.box (gK _ _ _ _ _ _ _ _ _ _ _ _ _ _ _) h)
   have HLN:=aH (mU e2 HR4.out noZ5 (mU HE4.out HV4.out.box (gK _ _ _ _ _ _ _ _ _ _ _ _ _ _ _) HV4.out.slc));have HFA:Hid (FcAt W9 ⟨fl,fe,fk,fi,fv⟩ ⟨NA,nc,B1,d1,B2,d2,B3,d3,B4,d4⟩):=aH ⟨HLN.out,kp HS14.out,kp HS24.out,kp HS34.out,kp HS44.out⟩;clear hW9 e1 e2 e3 kp;exact bodyPost_ret (v:= .agg #[.slice NA fl.length nc,.slice B1 fe.length d1,.slice B2 fk.length d2,.slice B3 fi.length d3,.slice B4 fv.length d4]) (by simp [results,Tryz.results18,go_sem,u0,u1,u2,u3,u4]) rfl ⟨⟨NA,nc,B1,d1,B2,d2,B3,d3,B4,d4⟩,rfl,HFA.out,HB9.out⟩
end
section
open Go Go.RowKit
def lvK (K:Blk) (x:Int) (j:Nat):Bool:=(List.range (K.stmts.length+1)).any (fun q=>decide (j<=q) && decide (x∈usB K q) && (List.range q).all (fun i=>decide (i<j) || decide (dfB K i≠some x)))
theorem lP {K:Blk} {x:Int} {j:Nat}:lvK K x j=true↔∃q,q<=K.stmts.length/\j<=q/\x∈usB K q/\∀i,j<=i->i<q->dfB K i≠some x:=by
 unfold lvK;simp only [List.any_eq_true,List.mem_range,bR,decide_eq_true_eq,List.all_eq_true,Bool.or_eq_true];constructor
 ·rintro ⟨q,h1,⟨h2,h3⟩,h4⟩;exact ⟨q,by omega,h2,h3,fun i hi hq=>(h4 i hq).resolve_left (by omega)⟩
 ·rintro ⟨q,h1,h2,h3,h4⟩;refine ⟨q,by omega,⟨h2,h3⟩,fun i hi=>?_⟩;by_cases e:i<j
  ·exact .inl e
  ·exact .inr (h4 i (by omega) hi)
section
variable {bs:List Blk} {K:Blk}
theorem lL (hb:bs=[K]) {p:Int} {i k:Nat}:locB bs p=some (i,k)↔i=0/\p=k/\k<=K.stmts.length:=by
 subst hb;rw [dP];constructor
 ·rintro ⟨x,h1,h2,h3⟩
  have hi:i=0:=by
   have:=(List.getElem?_eq_some_iff.1 h1).1;simp at this;omega
  subst hi;obtain rfl:K=x:=Option.some.inj h1;rw [stB_zero] at h3;exact ⟨rfl,by omega,h2⟩
 ·rintro ⟨rfl,rfl,h⟩;exact ⟨K,rfl,h,by rw [stB_zero];omega⟩
theorem xCQ (hb:bs=[K]):cntB bs=K.stmts.length+1:=by subst hb;simp [cntB,stB]
theorem xBK (hb:bs=[K]) {k:Nat} (h:k<=K.stmts.length):usP bs (k:Int)=usB K k:=xBF ((lL hb).2 ⟨rfl,rfl,h⟩) (by subst hb;rfl)
theorem xBM (hb:bs=[K]) {k:Nat} (h:k<=K.stmts.length):dfP bs (k:Int)=dfB K k:=xBT ((lL hb).2 ⟨rfl,rfl,h⟩) (by subst hb;rfl)
theorem qB (hb:bs=[K]) (ht:K.term.targets=[]) {p q:Int}:folP bs p q↔∃k:Nat,p=k/\q=((k+1:Nat):Int)/\k<K.stmts.length:=by
 constructor
 ·rintro ⟨i,k,x,h1,h2,h3⟩;obtain ⟨rfl,rfl,hk⟩:=(lL hb).1 h1;subst hb;obtain rfl:K=x:=Option.some.inj h2;split at h3
  ·exact ⟨k,rfl,by omega,by omega⟩
  ·obtain ⟨t,h4,_⟩:=h3;rw [ht] at h4;cases h4
 ·rintro ⟨k,rfl,rfl,hk⟩;refine ⟨0,k,K,(lL hb).2 ⟨rfl,rfl,by omega⟩,by subst hb;rfl,?_⟩;rw [bD (by omega)];omega
theorem xBL (hb:bs=[K]) (ht:K.term.targets=[]) {x p:Int}:Lv bs x p↔∃j:Nat,p=j/\lvK K x j=true:=by
 constructor
 ·refine Lv.least (L:=fun p x=>∃j:Nat,p=j/\lvK K x j=true) (fun p x h=>?_) (fun p q x h hf hd=>?_)
  ·cases e:locB bs p with
   | none=>rw [jX e] at h;cases h
   | some r=>
     obtain ⟨i,k⟩:=r;obtain ⟨rfl,rfl,hk⟩:=(lL hb).1 e;rw [xBK hb hk] at h;exact ⟨k,rfl,lP.2 ⟨k,hk,bA _,h,fun i _ _=>by omega⟩⟩
  ·obtain ⟨k,rfl,rfl,hk⟩:=(qB hb ht).1 hf;obtain ⟨j,hj,h⟩:=h;obtain rfl:k+1=j:=by omega
   obtain ⟨q,h1,h2,h3,h4⟩:=lP.1 h;rw [xBM hb (by omega)] at hd;refine ⟨k,rfl,lP.2 ⟨q,h1,by omega,h3,fun i hi hq=>?_⟩⟩;by_cases e:i=k
   ·subst e;exact hd
   ·exact h4 i (by omega) hq
 ·rintro ⟨j,rfl,h⟩;obtain ⟨q,h1,h2,h3,h4⟩:=lP.1 h;obtain ⟨d,rfl⟩:∃d,q=j+d:=⟨q - j,by omega⟩;clear h h2;induction d generalizing j with
  | zero=>exact .use (by rw [xBK hb (by omega)];exact h3)
  | succ d ih=>
    refine .step (q:=((j+1:Nat):Int)) ((qB hb ht).2 ⟨j,rfl,rfl,by omega⟩) (by rw [xBM hb (by omega)];exact h4 j (bA _) (by omega)) ?_;exact ih (j+1) (by omega) (by rw [show j+1+d=j+(d+1) by omega];exact h3) (fun i hi hq=>h4 i (by omega) (by omega))
end
end
section
open Go Go.RowKit
def fxT (mu:Bool):List Ty:=[⟨2,false,0,0,[]⟩,⟨3,mu,0,0,[]⟩]
def fxK (ss:List Stm):Blk:=⟨ss,⟨2,[],[],⟨0,[]⟩,⟨#[]⟩⟩⟩
def fxB (mu:Bool) (ss:List Stm):Bdy:=⟨⟨#[102]⟩,[⟨#[97]⟩],[],fxT mu,[⟨⟨#[120]⟩,0⟩,⟨⟨#[114]⟩,1⟩],0,[fxK ss]⟩
def fxb (mu:Bool):Stm:=⟨0,⟨1,[]⟩,⟨1,0,0,mu,⟨0,[]⟩,[]⟩,0⟩
theorem xDF (mu:Bool):chkB (fxB mu [fxb mu])=0:=by cases mu <;> decide
theorem wN {mu:Bool} {s:Int} (h:Men (fxT mu) s 0):False:=by
 cases h with
 | here _ h1 h2 _=>obtain rfl:=Option.some.inj h1;cases h2
 | elem _ h1 h2 _=>obtain rfl:=Option.some.inj h1;cases h2
 | fld _ h1 h2 _=>obtain rfl:=Option.some.inj h1;cases h2
theorem xDD {mu:Bool} {s:Int}:Men (fxT mu) s 1↔s=0:=by
 constructor
 ·intro h;cases h with
  | here _ h1 _ h3=>obtain rfl:=Option.some.inj h1;exact h3.symm
  | elem _ h1 _ h3=>obtain rfl:=Option.some.inj h1;exact (wN h3).elim
  | fld _ h1 h2 _=>obtain rfl:=Option.some.inj h1;cases h2
 ·rintro rfl;exact .here (by decide) rfl rfl rfl
def fxL (ss:List Stm):List (Int × Int):=((List.range (ss.length+1)).filter (fun (j:Nat)=>lvK (fxK ss) 1 j)).map (fun (j:Nat)=>((0:Int),(j:Int)))
def fxE (ss:List Stm):List (Int × Int):=(List.range ss.length).map (fun (k:Nat)=>((k:Int),((k+1:Nat):Int)))
theorem xDE (mu:Bool) (ss:List Stm):Srt2 (fxL ss) (lvR (fxB mu ss)):=by
 constructor
 ·unfold fxL;rw [List.pairwise_map];refine List.Pairwise.filter _ (List.pairwise_lt_range.imp ?_);intro a b h;exact .inr ⟨rfl,by simp;exact h⟩
 ·rintro ⟨r,p⟩;unfold fxL lvR;simp only [cN,List.mem_filter,List.mem_range,Prod.mk.injEq];constructor
  ·rintro ⟨j,⟨hj,h⟩,rfl,rfl⟩;exact ⟨1,(xBL rfl rfl).2 ⟨j,rfl,h⟩,_,rfl,0,xDD.2 rfl,by decide,(show (0:Int)<((1:Nat):Int) by decide),by decide,(show (0:Int)<((1:Nat):Int) by decide),.refl 0⟩
  ·rintro ⟨x,hx,l,hl,s,hs,h0,h1,h2,h3,hr⟩;have hr0:r=0:=by have h4:((fxB mu ss).regions.length:Int)=1:=rfl;omega
   subst hr0;have hl2:=(List.getElem?_eq_some_iff.1 hl).1;have hx0:x.toNat=0\/x.toNat=1:=by have h4:(fxB mu ss).locals.length=2:=rfl;omega
   obtain ⟨q,hq⟩:=hx.used;obtain ⟨j,rfl,h⟩:=(xBL rfl rfl).1 hx;have hj:=lP.1 h;obtain ⟨u,g1,g2,_⟩:=hj;have h5:(fxK ss).stmts.length=ss.length:=rfl;rcases hx0 with e | e
   ·rw [e] at hl;obtain rfl:=Option.some.inj hl;exact (wN hs).elim
   ·have e1:x=1:=(by omega);subst e1;exact ⟨j,⟨by omega,h⟩,rfl,rfl⟩
theorem xAB (mu:Bool) (ss:List Stm):Srt2 (fxE ss) (fun z=>folP (fxB mu ss).blocks z.1 z.2):=by
 constructor
 ·unfold fxE;rw [List.pairwise_map];refine List.pairwise_lt_range.imp ?_;intro a b h;exact .inl (by simp;exact h)
 ·rintro ⟨p,q⟩;simp only [fxE,cN,List.mem_range,Prod.mk.injEq];rw [qB (bs:=(fxB mu ss).blocks) (K:=fxK ss) rfl rfl];exact ⟨fun ⟨k,h,a,b⟩=>⟨k,a.symm,b.symm,h⟩,fun ⟨k,a,b,h⟩=>⟨k,h,a.symm,b.symm⟩⟩
theorem xAA {mu:Bool} {ss:List Stm} {f:Fct} (h:FcB (fxB mu ss) f):f=⟨lnU [fxK ss] (ss.length+1),fxE ss,pfx (ss.length+1) (kilF [fxK ss] (lnU [fxK ss] (ss.length+1))) ((lnU [fxK ss] (ss.length+1)).length * (ss.length+1)),pfx (ss.length+1) (invF [fxK ss] (lnU [fxK ss] (ss.length+1))) ((lnU [fxK ss] (ss.length+1)).length * (ss.length+1)),fxL ss⟩:=by
 have hc:cntB (fxB mu ss).blocks=ss.length+1:=xCQ (K:=fxK ss) rfl;have h1:=h.loans;have h4:=h.killed;have h5:=h.inval;rw [hc] at h1 h4 h5;rw [h1] at h4 h5;have h2:=h.edges.uniq (xAB mu ss);have h3:=h.live.uniq (xDE mu ss);obtain ⟨a,b,c,d,e⟩:=f;simp only at h1 h2 h3 h4 h5;rw [h1,h2,h3,h4,h5];rfl
theorem pC {mu:Bool} {f:Fct} (h:FcB (fxB mu [fxb mu]) f):f=⟨[⟨0,0,mu,⟨0,[]⟩⟩],[(0,1)],[],if mu then [(0,0)] else [],[]⟩:=by
 rw [xAA h];cases mu <;> decide
end
end Go.Proofs.YtkaigkfbkpinlaaGreatDoor
