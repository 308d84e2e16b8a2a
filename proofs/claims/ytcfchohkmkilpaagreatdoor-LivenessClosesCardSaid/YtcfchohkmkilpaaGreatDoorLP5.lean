/-
  Parts of the proof: H3 H4 HM HN KA V19 V27 Queue V17 A1.
-/
import Derived.Test.YtcfchohkmkilpaaGreatDoorLP0
import Derived.Test.YtcfchohkmkilpaaGreatDoorLP3
import Derived.Test.YtcfchohkmkilpaaGreatDoorLP4
import Derived.Test.YtcfchohkmkilpaaGreatDoorLP1
import Derived.Test.YtcfchohkmkilpaaGreatDoorLP2
import Derived.Laws.MakeOwn
import Derived.Maps.OwnOps
import Derived.Deep.LoopGhost
namespace Go.Proofs.YtcfchohkmkilpaaGreatDoor
set_option maxRecDepth 100000
set_option maxHeartbeats 16000000
section
open Go Go.RowKit
theorem jV {α : Type} {R : α -> α -> Prop} {l:List α} {x : α} (h:l.Pairwise R) (hx:∀y∈l,R y x):(l ++ [x]).Pairwise R:=
 List.pairwise_append.2 ⟨h,List.pairwise_singleton _ _,fun a ha b hb=>by rw [List.mem_singleton.1 hb];exact hx a ha⟩
theorem Srt.push {l:List Int} {P:Int->Prop} {q:Int} (h:Srt l P) (hP:∀z,P z->z<q):Srt (l ++ [q]) (fun z=>P z\/z=q):=
 ⟨jV h.1 (fun y hy=>hP y ((h.2 y).1 hy)),fun z=>by simp [h.2]⟩
theorem Srt.zero {P:Int->Prop}:Srt [] (fun z=>P z/\0<=z/\z<0):=srt_nil.iff fun z=>⟨fun h=>h.elim,fun h=>by omega⟩
theorem Srt.empty {l:List Int} {P:Int->Prop} (h:Srt l P) (hP:∀z,¬P z):l=[]:=by
 cases l with
 | nil=>rfl
 | cons x r=>exact absurd ((h.2 x).1 (by simp)) (hP x)
theorem Srt.len {l:List Int} {P:Int->Prop} (h:Srt l P) {n:Nat} (hP:∀z,P z->0<=z/\z<(n:Int)):l.length<=n:=
 dR n l h.nodup (fun x hx=>hP x ((h.2 x).1 hx))
def lt2 (a b:Int × Int):Prop:=a.1<b.1\/(a.1=b.1/\a.2<b.2)
theorem jG {a b:Int × Int} (h:lt2 a b) (k:lt2 b a):False:=by unfold lt2 at h k;omega
def Srt2 (s:List (Int × Int)) (P:Int × Int->Prop):Prop:=s.Pairwise lt2/\∀x,x∈s↔P x
theorem nD:∀{s t:List (Int × Int)},s.Pairwise lt2->t.Pairwise lt2->(∀x,x∈s↔x∈t)->s=t
 | [],[],_,_,_=>rfl
 | [],y :: t,_,_,h=>absurd ((h y).2 (by simp)) (by simp)
 | x :: s,[],_,_,h=>absurd ((h x).1 (by simp)) (by simp)
 | x :: s,y :: t,h1,h2,h=>by
   rw [List.pairwise_cons] at h1 h2
   have hxy:x=y:=by
    rcases List.mem_cons.1 ((h x).1 (by simp)) with e | e
    ·exact e
    ·rcases List.mem_cons.1 ((h y).2 (by simp)) with e' | e'
     ·exact e'.symm
     ·exact (jG (h1.1 y e') (h2.1 x e)).elim
   subst hxy;rw [nD h1.2 h2.2 (fun z=>?_)];constructor
   ·intro hz;rcases List.mem_cons.1 ((h z).1 (by simp [hz])) with e | e
    ·subst e;exact (jG (h1.1 z hz) (h1.1 z hz)).elim
    ·exact e
   ·intro hz;rcases List.mem_cons.1 ((h z).2 (by simp [hz])) with e | e
    ·subst e;exact (jG (h2.1 z hz) (h2.1 z hz)).elim
    ·exact e
theorem Srt2.uniq {s t:List (Int × Int)} {P:Int × Int->Prop} (h:Srt2 s P) (k:Srt2 t P):s=t:=nD h.1 k.1 (fun x=>(h.2 x).trans (k.2 x).symm)
theorem Srt2.iff {s:List (Int × Int)} {P Q:Int × Int->Prop} (h:Srt2 s P) (e:∀x,P x↔Q x):Srt2 s Q:=⟨h.1,fun x=>(h.2 x).trans (e x)⟩
theorem Srt2.nil {P:Int × Int->Prop} (h:∀x,¬P x):Srt2 [] P:=⟨List.Pairwise.nil,fun x=>by simp [h]⟩
theorem Srt2.push {l:List (Int × Int)} {P:Int × Int->Prop} {q:Int × Int} (h:Srt2 l P) (hP:∀z,P z->lt2 z q):Srt2 (l ++ [q]) (fun z=>P z\/z=q):=
 ⟨jV h.1 (fun y hy=>hP y ((h.2 y).1 hy)),fun z=>by simp [h.2]⟩
inductive Men (ts:List Ty) (r:Int):Int->Prop
 | here {i:Int} {t:Ty}:0<=i->ts[i.toNat]?=some t->t.kind=3->t.reg=r->Men ts r i
 | elem {i:Int} {t:Ty}:0<=i->ts[i.toNat]?=some t->t.kind=3->Men ts r t.elem->Men ts r i
 | fld {i k:Int} {t:Ty}:0<=i->ts[i.toNat]?=some t->k∈t.flds->Men ts r k->Men ts r i
def prtT (t:Ty):List Int:=if t.kind=3 then [t.elem] else t.flds
inductive Rt (ts:List Ty):Int->Int->Prop
 | refl (i:Int):Rt ts i i
 | step {i k j:Int} {t:Ty}:0<=i->ts[i.toNat]?=some t->k∈prtT t->Rt ts k j->Rt ts i j
theorem Rt.trans {ts:List Ty} {i j k:Int} (h:Rt ts i j):Rt ts j k->Rt ts i k:=by
 induction h with
 | refl=>exact fun h=>h
 | step h0 h1 h2 _ ih=>exact fun h=> .step h0 h1 h2 (ih h)
theorem Rt.closed {ts:List Ty} {S:Int->Prop} (h:∀i t k,S i->0<=i->ts[i.toNat]?=some t->k∈prtT t->S k) {i j:Int} (hr:Rt ts i j):S i->S j:=by
 induction hr with
 | refl=>exact fun h=>h
 | step h0 h1 h2 _ ih=>exact fun hs=>ih (h _ _ _ hs h0 h1 h2)
structure Lf (bs:List Blk) (x p0:Int) (l sl:List Int) (i:Nat):Prop where
 rch:∀q∈l,Rn bs x p0 q
 hd:p0∈l
 nd:sl.Nodup
 rng:∀q∈l,0<=q/\q<(cntB bs:Int)
 sub:∀q∈sl,q∈l
 cls:∀q∈sl,x∉usP bs q/\(dfP bs q≠some x->∀r,folP bs q r->r∈l)
 pre:∀j,j<i->∀q,l[j]?=some q->q∈sl
theorem Lf.start {bs:List Blk} {x p:Int} (h0:0<=p) (h1:p<cntB bs):Lf bs x p [p] [] 0:=
 ⟨fun q hq=>by rw [List.mem_singleton.1 hq];exact .refl _,by simp,by simp,fun q hq=>by rw [List.mem_singleton.1 hq];exact ⟨h0,h1⟩,by simp,by simp,fun j hj=>by omega⟩
theorem Lf.known {bs:List Blk} {x p0:Int} {l sl:List Int} {i:Nat} (h:Lf bs x p0 l sl i) {q:Int} (hq:l[i]?=some q) (hs:q∈sl):Lf bs x p0 l sl (i+1):=
 ⟨h.rch,h.hd,h.nd,h.rng,h.sub,h.cls,fun j hj r hr=>by
   by_cases e:j=i
   ·subst e;rw [hq] at hr;injection hr with hr;exact hr ▸ hs
   ·exact h.pre j (by omega) r hr⟩
theorem Lf.stop {bs:List Blk} {x p0:Int} {l sl:List Int} {i:Nat} (h:Lf bs x p0 l sl i) {q:Int} (hq:l[i]?=some q) (hs:q∉sl) (hu:x∉usP bs q) (hd:dfP bs q=some x):Lf bs x p0 l (q :: sl) (i+1):=
 ⟨h.rch,h.hd,List.nodup_cons.2 ⟨hs,h.nd⟩,h.rng,fun r hr=>(List.mem_cons.1 hr).elim (fun e=>e ▸ List.mem_of_getElem? hq) (h.sub r),fun r hr=>(List.mem_cons.1 hr).elim (fun e=>by subst e;exact ⟨hu,fun g=>absurd hd g⟩) (h.cls r),fun j hj r hr=>by
   by_cases e:j=i
   ·subst e;rw [hq] at hr;injection hr with hr;simp [hr]
   ·simp [h.pre j (by omega) r hr]⟩
theorem Lf.more {bs:List Blk} {x p0:Int} {l sl nx:List Int} {i:Nat} (h:Lf bs x p0 l sl i) {q:Int} (hq:l[i]?=some q) (hs:q∉sl) (hu:x∉usP bs q) (hd:dfP bs q≠some x) (hn:∀r,r∈nx↔folP bs q r):Lf bs x p0 (l ++ nx) (q :: sl) (i+1):=by
 have hi:i<l.length:=(List.getElem?_eq_some_iff.1 hq).1;refine ⟨fun r hr=>?_,by simp [h.hd],List.nodup_cons.2 ⟨hs,h.nd⟩,fun r hr=>?_,fun r hr=>?_,fun r hr=>?_,fun j hj r hr=>?_⟩
 ·rcases List.mem_append.1 hr with hr | hr
  ·exact h.rch r hr
  ·exact .step (h.rch q (List.mem_of_getElem? hq)) ((hn r).1 hr) hd
 ·rcases List.mem_append.1 hr with hr | hr
  ·exact h.rng r hr
  ·have:=fX ((hn r).1 hr);exact ⟨this.2.2.1,this.2.2.2⟩
 ·rcases List.mem_cons.1 hr with e | hr
  ·subst e;exact List.mem_append_left _ (List.mem_of_getElem? hq)
  ·exact List.mem_append_left _ (h.sub r hr)
 ·rcases List.mem_cons.1 hr with e | hr
  ·subst e;exact ⟨hu,fun _ z hz=>List.mem_append_right _ ((hn z).2 hz)⟩
  ·exact ⟨(h.cls r hr).1,fun g z hz=>List.mem_append_left _ ((h.cls r hr).2 g z hz)⟩
 ·rw [List.getElem?_append_left (by omega)] at hr;by_cases e:j=i
  ·subst e;rw [hq] at hr;injection hr with hr;simp [hr]
  ·simp [h.pre j (by omega) r hr]
theorem Lf.done {bs:List Blk} {x p0:Int} {l sl:List Int} {i:Nat} (h:Lf bs x p0 l sl i) (hi:l.length<=i):¬Lv bs x p0:=fun hl=>
 Lv.none (S:=fun q=>q∈l) (fun p hp=>by
  obtain ⟨j,hj,e⟩:=List.getElem_of_mem hp
  exact h.cls p (h.pre j (by omega) p (by rw [bD hj,e]))) hl h.hd
theorem Lf.len {bs:List Blk} {x p0:Int} {l sl:List Int} {i:Nat} (h:Lf bs x p0 l sl i):sl.length<=cntB bs:=
 dR _ sl h.nd (fun q hq=>h.rng q (h.sub q hq))
structure Wk (bs:List Blk) (U:List Int) (L:Int->List Int) (wk:List (Int × Int)) (ex:Int->Int->Int->Prop):Prop where
 snd:∀p x,x∈L p->Lv bs x p
 wsnd:∀e∈wk,Lv bs e.2 e.1
 cov:∀p x,x∈usP bs p->x∈L p\/(p,x)∈wk
 cls:∀q x p,x∈L q->folP bs p q->dfP bs p≠some x->ex p q x\/x∈L p\/(p,x)∈wk
 nd:∀p,(L p).Nodup
 un:∀p,∀x∈L p,x∈U
def addL (L:Int->List Int) (p x:Int):Int->List Int:=fun q=>if q=p then x :: L p else L q
theorem Wk.start {bs:List Blk} {U:List Int} {wk:List (Int × Int)} (h1:∀e∈wk,e.2∈usP bs e.1) (h2:∀p x,x∈usP bs p->(p,x)∈wk):Wk bs U (fun _=>[]) wk (fun _ _ _=>False):=
 ⟨fun _ _ h=>absurd h List.not_mem_nil,fun e he=>Lv.use (h1 e he),fun p x h=>Or.inr (h2 p x h),fun _ _ _ h=>absurd h List.not_mem_nil,fun _=>List.nodup_nil,fun _ _ h=>absurd h List.not_mem_nil⟩
theorem Wk.known {bs:List Blk} {U:List Int} {L:Int->List Int} {wk:List (Int × Int)} {p x:Int} (h:Wk bs U L (wk ++ [(p,x)]) (fun _ _ _=>False)) (hx:x∈L p):Wk bs U L wk (fun _ _ _=>False):=by
 have key:∀p' x',x'∈L p'\/(p',x')∈wk ++ [(p,x)]->x'∈L p'\/(p',x')∈wk:=fun p' x' hh=>by
  rcases hh with hh | hh
  ·exact .inl hh
  ·rcases List.mem_append.1 hh with hh | hh
   ·exact .inr hh
   ·rw [bR,Prod.mk.injEq] at hh;obtain ⟨rfl,rfl⟩:=hh;exact .inl hx
 exact ⟨h.snd,fun e he=>h.wsnd e (by simp [he]),fun p' x' hu=>key _ _ (h.cov p' x' hu),fun q x' p' a b c=> .inr (key _ _ ((h.cls q x' p' a b c).elim False.elim id)),h.nd,h.un⟩
theorem Wk.new {bs:List Blk} {U:List Int} {L:Int->List Int} {wk:List (Int × Int)} {p x:Int} (h:Wk bs U L (wk ++ [(p,x)]) (fun _ _ _=>False)) (hx:x∉L p) (hU:x∈U):Wk bs U (addL L p x) wk (fun _ q y=>q=p/\y=x):=by
 have hl:Lv bs x p:=h.wsnd (p,x) (by simp)
 have key:∀p' x',x'∈L p'\/(p',x')∈wk ++ [(p,x)]->x'∈addL L p x p'\/(p',x')∈wk:=fun p' x' hh=>by
  rcases hh with hh | hh
  ·refine .inl ?_;unfold addL;split
   ·rename_i e;subst e;exact List.mem_cons_of_mem _ hh
   ·exact hh
  ·rcases List.mem_append.1 hh with hh | hh
   ·exact .inr hh
   ·rw [bR,Prod.mk.injEq] at hh;obtain ⟨rfl,rfl⟩:=hh;refine .inl ?_;unfold addL;rw [bA rfl];simp
 have mem:∀q y,y∈addL L p x q->(q=p/\y=x)\/y∈L q:=fun q y hy=>by
  unfold addL at hy;split at hy
  ·rename_i e;subst e;rcases List.mem_cons.1 hy with e | hy
   ·exact .inl ⟨rfl,e⟩
   ·exact .inr hy
  ·exact .inr hy
 refine ⟨fun q y hy=>?_,fun e he=>h.wsnd e (by simp [he]),fun p' x' hu=>key _ _ (h.cov p' x' hu),fun q y p' hy a b=>?_,fun q=>?_,fun q y hy=>?_⟩
 ·rcases mem q y hy with ⟨rfl,rfl⟩ | hy
  ·exact hl
  ·exact h.snd q y hy
 ·rcases mem q y hy with e | hy
  ·exact .inl e
  ·exact .inr (key _ _ ((h.cls q y p' hy a b).elim False.elim id))
 ·unfold addL;split
  ·exact List.nodup_cons.2 ⟨hx,h.nd p⟩
  ·exact h.nd q
 ·rcases mem q y hy with ⟨rfl,rfl⟩ | hy
  ·exact hU
  ·exact h.un q y hy
theorem Wk.push {bs:List Blk} {U:List Int} {L:Int->List Int} {wk:List (Int × Int)} {p x q:Int} {E E':Int->Prop} (h:Wk bs U L wk (fun p' q' y=>(q'=p/\y=x)/\E p')) (hx:Lv bs x p) (hq:folP bs q p) (hd:dfP bs q≠some x) (hE:∀z,E z->z=q\/E' z):
 Wk bs U L (wk ++ [(q,x)]) (fun p' q' y=>(q'=p/\y=x)/\E' p'):=
 ⟨h.snd,fun e he=>(List.mem_append.1 he).elim (h.wsnd e) (fun he=>by rw [List.mem_singleton.1 he];exact .step hq hd hx),
  fun p' x' hu=>(h.cov p' x' hu).imp id (fun g=>by simp [g]),
  fun q' y p' a b c=>by
   rcases h.cls q' y p' a b c with ⟨⟨rfl,rfl⟩,e2⟩ | e | e
   ·rcases hE p' e2 with rfl | e3
    ·exact .inr (.inr (by simp))
    ·exact .inl ⟨⟨rfl,rfl⟩,e3⟩
   ·exact .inr (.inl e)
   ·exact .inr (.inr (by simp [e])),h.nd,h.un⟩
theorem Wk.pass {bs:List Blk} {U:List Int} {L:Int->List Int} {wk:List (Int × Int)} {p x q:Int} {E E':Int->Prop} (h:Wk bs U L wk (fun p' q' y=>(q'=p/\y=x)/\E p')) (hd:dfP bs q=some x) (hE:∀z,E z->z=q\/E' z):
 Wk bs U L wk (fun p' q' y=>(q'=p/\y=x)/\E' p'):=
 ⟨h.snd,h.wsnd,h.cov,fun q' y p' a b c=>by
   rcases h.cls q' y p' a b c with ⟨⟨rfl,rfl⟩,e2⟩ | e | e
   ·rcases hE p' e2 with rfl | e3
    ·exact absurd hd c
    ·exact .inl ⟨⟨rfl,rfl⟩,e3⟩
   ·exact .inr (.inl e)
   ·exact .inr (.inr e),h.nd,h.un⟩
theorem Wk.ex {bs:List Blk} {U:List Int} {L:Int->List Int} {wk:List (Int × Int)} {ex ex':Int->Int->Int->Prop} (h:Wk bs U L wk ex) (he:∀p q x,folP bs p q->ex p q x->ex' p q x):Wk bs U L wk ex':=
 ⟨h.snd,h.wsnd,h.cov,fun q x p a b c=>(h.cls q x p a b c).imp (he p q x b) id,h.nd,h.un⟩
theorem Wk.done {bs:List Blk} {U:List Int} {L:Int->List Int} (h:Wk bs U L [] (fun _ _ _=>False)) (p x:Int):x∈L p↔Lv bs x p:=
 ⟨h.snd p x,fun hl=>Lv.least (L:=fun p x=>x∈L p) (fun p x hu=>(h.cov p x hu).elim id (fun g=>by cases g)) (fun p q x a b c=>((h.cls q x p a b c).elim False.elim id).elim id (fun g=>by cases g)) hl⟩
def totL (L:Int->List Int):Nat->Nat
 | 0=>0
 | n+1=>totL L n+(L n).length
theorem qX {L:Int->List Int} {p x:Int}:∀{n:Nat},0<=p->p<n->totL (addL L p x) n=totL L n+1
 | 0,h0,h1=>by omega
 | n+1,h0,h1=>by
   unfold totL;by_cases e:p=n
   ·subst e
    have:∀m:Nat,m<=n->totL (addL L n x) m=totL L m:=by
     intro m;induction m with
     | zero=>intro _;rfl
     | succ m ih=>
       intro hm;unfold totL;rw [ih (by omega)];unfold addL;rw [aZ (by omega)]
    rw [this n (aY _)];unfold addL;rw [bA rfl];simp;omega
   ·rw [qX h0 (by omega)];unfold addL;rw [aZ (fun e'=>e e'.symm)];omega
theorem uZ {L:Int->List Int} {m:Nat} (h:∀p,(L p).length<=m):∀n,totL L n<=n * m
 | 0=>by simp [totL]
 | n+1=>by
   unfold totL;have:=uZ h n;have:=h n;rw [Nat.succ_mul];omega
theorem vE {α : Type} [DecidableEq α]:∀{U l:List α},l.Nodup->(∀x∈l,x∈U)->l.length<=U.length
 | [],l,_,h=>by cases l with
   | nil=>simp
   | cons x r=>exact absurd (h x (by simp)) (by simp)
 | u :: U,l,hn,h=>by
   have h1:=vE (U:=U) (hn.erase u) (fun x hx=>by
    rw [hn.mem_erase_iff] at hx
    exact (List.mem_cons.1 (h x hx.2)).elim (fun e=>absurd e hx.1) id)
   have h2:l.length<=(l.erase u).length+1:=by
    rw [List.length_erase];split <;> omega
   simp only [bK];omega
theorem Wk.tot {bs:List Blk} {U:List Int} {L:Int->List Int} {wk:List (Int × Int)} {ex:Int->Int->Int->Prop} (h:Wk bs U L wk ex) (n:Nat):totL L n<=n * U.length:=
 uZ (fun p=>vE (h.nd p) (h.un p)) n
end
section
open Go Go.RowKit Go.Maps
structure Kc (A B:World):Prop where
 cell:∀a v,A.cell? a=some v->B.cell? a=some v
 size:A.heap.size<=B.heap.size
theorem Kc.refl (A:World):Kc A A:=⟨fun _ _ h=>h,aY _⟩
theorem Kc.trans {A B C:World} (h:Kc A B) (k:Kc B C):Kc A C:=⟨fun a v g=>k.cell a v (h.cell a v g),bX h.size k.size⟩
theorem Kc.of_below {A B:World} (h:Below A.heap.size A B):Kc A B:=⟨fun _ _ g=>cO h g,h.size⟩
theorem sJ {w:World} {a:Addr} {v:Value} (h:w.cell? a=some v):∃cs e z,w.heap[a.block]?=some (.cells cs e z):=by
 unfold World.cell? at h;split at h
 ·exact ⟨_,_,_,by assumption⟩
 ·cases h
def Rd.KeepsC {α : Type} (R:Rd α):Prop:=∀(w w':World) (B B' b o:Nat) (x : α),B<=B'->Kc w w'->R w B b o x->R w' B' b o x
theorem RInt.keepsC:RInt.KeepsC:=fun _ _ _ _ _ _ _ _ hk h=>hk.cell _ _ h
theorem RPr.keepsC:RPr.KeepsC:=fun _ _ _ _ _ _ _ _ hk h=>⟨hk.cell _ _ h.1,hk.cell _ _ h.2⟩
theorem Sl.keepC {α : Type} {k:Nat} {R:Rd α} (hR:R.KeepsC) {w w':World} {B B':Nat} {A:Option Addr} {xs:List α} (h:Sl k R w B A xs) (hB:B<=B') (hb:Kc w w'):Sl k R w' B' A xs:=fun hn=>by
 obtain ⟨b,off,hA,hlt,hx⟩:=h hn;exact ⟨b,off,hA,by omega,fun i x hi=>hR w w' B B' b _ x hB hb (hx i x hi)⟩
theorem Slc.keepC {α : Type} {k:Nat} {R:Rd α} (hR:R.KeepsC) {w w':World} {A:Option Addr} {c:Nat} {xs:List α} (h:Slc k R w A c xs) (hb:Kc w w'):Slc k R w' A c xs:=
 ⟨h.sl.keepC hR hb.size hb,h.le,h.big⟩
def rowA (n:Nat) (F:Nat->Value):Array Value:=(Array.range n).map F
def RowF (w:World) (b n:Nat) (T:TypeId) (F:Nat->Value):Prop:=w.heap[b]?=some (.cells (rowA n F) T (0,0))
def updF1 (F:Nat->Value) (j:Nat) (v:Value):Nat->Value:=fun i=>if i=j then v else F i
theorem RowF.cell {w:World} {b n:Nat} {T:TypeId} {F:Nat->Value} (h:RowF w b n T F) {j:Nat} (hj:j<n):w.cell? ⟨b,j,none⟩=some (F j):=by
 unfold RowF rowA at h;simp [World.cell?,h,hj]
theorem RowF.frozen {w:World} {b n:Nat} {T:TypeId} {F:Nat->Value} (h:RowF w b n T F) (j:Nat):w.frozen? ⟨b,j,none⟩=false:=by
 unfold RowF at h;simp [World.frozen?,h]
theorem RowF.lt {w:World} {b n:Nat} {T:TypeId} {F:Nat->Value} (h:RowF w b n T F):b<w.heap.size:=(Array.getElem?_eq_some_iff.1 h).1
theorem RowF.block {w w':World} {b n:Nat} {T:TypeId} {F:Nat->Value} (h:RowF w b n T F) (hb:w'.heap[b]?=w.heap[b]?):RowF w' b n T F:=hb.trans h
theorem RowF.set {w:World} {b n:Nat} {T:TypeId} {F:Nat->Value} (h:RowF w b n T F) (j:Nat) (v:Value):RowF (w.setCell ⟨b,j,none⟩ v) b n T (updF1 F j v):=by
 unfold RowF at h ⊢
 have:(rowA n F).setIfInBounds j v=rowA n (updF1 F j v):=by
  apply Array.ext_getElem?
  intro i;by_cases hi:i<n
  ·by_cases hij:i=j
   ·subst hij;simp [rowA,updF1,hi]
   ·simp [rowA,updF1,hi,hij,Ne.symm hij]
  ·by_cases hij:i=j
   ·subst hij;simp [rowA,hi]
   ·simp [rowA,hi]
 rw [<- this];simp [World.setCell,Array.getElem?_modify,h]
theorem RowF.congr {w:World} {b n:Nat} {T:TypeId} {F G:Nat->Value} (h:RowF w b n T F) (he:∀j,j<n->F j=G j):RowF w b n T G:=by
 have:rowA n F=rowA n G:=by
  apply Array.ext_getElem?
  intro i;by_cases hi:i<n
  ·simp [rowA,hi,he i hi]
  ·simp [rowA,hi]
 unfold RowF at h ⊢;rw [<- this];exact h
theorem RowF.new (w:World) (n:Nat) (T:TypeId) (F:Nat->Value):RowF (w.alloc (.cells (rowA n F) T)) w.heap.size n T F:=heap_alloc_new w _
theorem RowF.below {w W:World} {n₀ b j:Nat} (v:Value) (hb:n₀ <= b) (h:Below n₀ w W):Below n₀ w (W.setCell ⟨b,j,none⟩ v):=h.setCell hb v
theorem gH {P:Program} (w:World) (t e:TypeId) (i:TypeInfo) (z:Value) (zs:Array Value) (k:Nat) (ht:P.underlying t=some (.slice e)) (hi:P.info? e=some i) (hz:i.zero=some z) (hzs:z.cells=zs) (hk:i.size=k)
 (n:Nat) (hbytes:i.bytes * n<=281474976710656) (h63:n<=9223372036854775807):
 (Instr.makeSlice t (.int .i64 (n:Int)) (.int .i64 (n:Int))).run P w = .ok (.slice (some ⟨w.heap.size,0,none⟩) n n) (w.alloc (.cells (rowA (n * k) (fun j=>zs[j % zs.size]!)) e)):=by
 have hb':(i.bytes:Int) * (n:Int)<=281474976710656:=by
  have h:((i.bytes * n:Nat):Int)<=281474976710656:=by omega
  rwa [Int.natCast_mul] at h
 have:=run_make (P:=P) w t e i z ht hi hz .i64 .i64 n n (by omega) (Int.le_refl _) hb' (by omega);simp only [bV,hzs,hk] at this;exact this
def updL1 (L:Nat->List Int) (j:Nat) (l:List Int):Nat->List Int:=fun i=>if i=j then l else L i
structure RowsI (w:World) (base blk n:Nat) (T:TypeId) (L:Nat->List Int) (F:Nat->Value):Prop where
 head:RowF w blk n T F
 rows:∀j,w.ownsRow base 3 1 (F j) (L j).length ((L j).map (Value.int .i64))
 apart:∀i j g,(F i).ownBlock=some g->(F j).ownBlock=some g->i=j
 lblk:blk<base
 low:base<=w.heap.size
theorem RowsI.keep {w w':World} {base blk n:Nat} {T:TypeId} {L:Nat->List Int} {F:Nat->Value} (h:RowsI w base blk n T L F) (hb:Below w.heap.size w w'):RowsI w' base blk n T L F:=
 ⟨h.head.block (hb.block _ h.head.lt),fun j=>dG (h.rows j) hb,h.apart,h.lblk,bX h.low hb.size⟩
theorem wF (w:World) (base:Nat) (e:TypeId) (k:Nat):w.ownsRow base e k (.slice none 0 0) 0 []:=⟨by simp,.inl ⟨rfl,rfl⟩⟩
theorem RowsI.new (w:World) (n:Nat) (T:TypeId) (F:Nat->Value) (hF:∀j,F j = .slice none 0 0) (k:Nat) (hk:k=w.heap.size):RowsI (w.alloc (.cells (rowA n F) T)) (k+1) k n T (fun _=>[]) F:=by
 subst hk;exact ⟨RowF.new w n T F,fun j=>by rw [hF];exact wF _ _ _ _,fun i j g h=>(by rw [hF] at h;exact absurd h (by simp [Value.ownBlock])),by omega,by simp⟩
theorem RowsI.step {w w2:World} {base blk n:Nat} {T:TypeId} {L:Nat->List Int} {F:Nat->Value} (h:RowsI w base blk n T L F) (j:Nat) (y:Int) (v':Value)
 (hown:w2.ownsRow base 3 1 v' ((L j).length+1) ((L j).map (Value.int .i64) ++ [.int .i64 y])) (hgrow:w.grownBy w2 (F j).ownBlock) (hloc:v'.ownBlock=(F j).ownBlock\/v'.ownBlock=some w.heap.size):
 RowsI (w2.setCell ⟨blk,j,none⟩ v') base blk n T (updL1 L j (L j ++ [y])) (updF1 F j v'):=by
 have hne:∀k,k<base->some k≠(F j).ownBlock:=fun k hk e=>by
  have:=((h.rows j).lt k e.symm).1;omega
 have hset:∀k,k≠blk->(w2.setCell ⟨blk,j,none⟩ v').heap[k]?=w2.heap[k]?:=fun k hk=>bH w2 ⟨blk,j,none⟩ v' k hk
 have hlb:=h.lblk;have hlow:=h.low;refine ⟨(h.head.block (hgrow.block blk h.head.lt (hne blk hlb))).set j v',fun i=>?_,fun i i' g h1 h2=>?_,hlb,by simp;exact bX hlow hgrow.size⟩
 ·unfold updL1 updF1;by_cases he:i=j
  ·rw [bA he,bA he,bB,cG,bS];exact dI hown (fun k hk _ _=>hset k (by omega))
  ·rw [aZ he,aZ he];refine dI (h.rows i) (fun k hk hk2 hkr=>?_);exact (hset k (by omega)).trans (hgrow.block k hk2 (fun e=>he (h.apart i j k hkr.symm e.symm)))
 ·unfold updF1 at h1 h2
  have key:∀i,i≠j->v'.ownBlock=some g->(F i).ownBlock=some g->False:=fun i hn hv hf=>by
   have hlt:=((h.rows i).lt g hf).2;rcases hloc with e | e
   ·exact hn (h.apart i j g hf (by rw [<- e];exact hv))
   ·rw [e] at hv;injection hv with hv;omega
  by_cases e1:i=j <;> by_cases e2:i'=j
  ·exact e1.trans e2.symm
  ·rw [bA e1] at h1;rw [aZ e2] at h2;exact (key i' e2 h1 h2).elim
  ·rw [aZ e1] at h1;rw [bA e2] at h2;exact (key i e1 h2 h1).elim
  ·rw [aZ e1] at h1;rw [aZ e2] at h2;exact h.apart i i' g h1 h2
end
section
open Go Go.RowKit
def befL (E:List (Int × Int)) (p:Nat):List Int:=(E.filter (fun e=>decide (e.2=(p:Int)))).map (·.1)
theorem xV (E:List (Int × Int)) (a:Int) (b:Nat):befL (E ++ [(a,(b:Int))])=updL1 (befL E) b (befL E b ++ [a]):=by
 funext p
 unfold updL1 befL;rw [List.filter_append,bS];by_cases h:p=b
 ·subst h;simp
 ·rw [aZ h];have:¬(b:Int)=(p:Int):=by omega
  simp [this]
theorem sM {bs:List Blk} {E:List (Int × Int)} (h:Srt2 E (fun z=>folP bs z.1 z.2)) (p:Nat):Srt (befL E p) (fun q=>folP bs q p):=by
 constructor
 ·unfold befL;rw [List.pairwise_map];refine List.Pairwise.imp_of_mem ?_ (h.1.filter _);intro a b ha hb hab;have h1:=(List.mem_filter.1 ha).2;have h2:=(List.mem_filter.1 hb).2;rw [decide_eq_true_eq] at h1 h2;unfold lt2 at hab;omega
 ·intro q;unfold befL;rw [List.mem_map];constructor
  ·rintro ⟨e,he,rfl⟩;obtain ⟨h1,h2⟩:=List.mem_filter.1 he;rw [decide_eq_true_eq] at h2;have:folP bs e.1 e.2:=(h.2 e).1 h1;rwa [h2] at this
  ·intro hf;exact ⟨(q,p),List.mem_filter.2 ⟨(h.2 _).2 hf,by simp⟩,rfl⟩
theorem sN {bs:List Blk} {E:List (Int × Int)} (h:Srt2 E (fun z=>folP bs z.1 z.2)) (p:Nat):(befL E p).length<=cntB bs:=
 (sM h p).len (fun q hq=>by have:=fX hq;exact ⟨this.1,this.2.1⟩)
theorem xW (E:List (Int × Int)) (k p:Nat):(befL (E.take k) p).length<=(befL E p).length:=by
 unfold befL;rw [cF,cF];exact ((List.take_sublist k E).filter _).length_le
theorem qF {U:List Int} {left:Int->Bool} {x:Int} (hx:x∈U) (hl:left x=true):(U.filter (fun z=>left z && decide (z≠x))).length+1<=(U.filter left).length:=by
 induction U with
 | nil=>cases hx
 | cons u r ih=>
   by_cases e:u=x
   ·subst e;have h1:((u :: r).filter (fun z=>left z && decide (z≠u)))=r.filter (fun z=>left z && decide (z≠u)):=by simp
    have h2:(u :: r).filter left=u :: r.filter left:=(by simp [hl]);rw [h1,h2,bK]
    have:(r.filter (fun z=>left z && decide (z≠u))).length<=(r.filter left).length:=by
     rw [<- List.countP_eq_length_filter,<- List.countP_eq_length_filter];exact List.countP_mono_left (fun z _ h=>by simp only [bP] at h;exact h.1)
    omega
   ·have hr:x∈r:=(List.mem_cons.1 hx).elim (fun h=>absurd h.symm e) id;have h3:=ih hr;by_cases hu:left u=true
    ·have h1:((u :: r).filter (fun z=>left z && decide (z≠x)))=u :: r.filter (fun z=>left z && decide (z≠x)):=by simp [hu,e]
     have h2:(u :: r).filter left=u :: r.filter left:=(by simp [hu]);rw [h1,h2,bK,bK];omega
    ·have h1:((u :: r).filter (fun z=>left z && decide (z≠x)))=r.filter (fun z=>left z && decide (z≠x)):=by simp [hu]
     have h2:(u :: r).filter left=r.filter left:=(by simp [hu]);rw [h1,h2];exact h3
structure Wb (bs:List Blk) (U:List Int) (wk:List (Int × Int)) (m:Nat) (left:Int->Bool):Prop where
 snd:∀e∈wk,e.2∈usP bs e.1
 cov:∀(p:Nat) (x:Int),p<m->x∈usP bs p->((p:Int),x)∈wk
 cur:∀x,x∈usP bs m->left x=true\/((m:Int),x)∈wk
 len:wk.length+(U.filter left).length<=(m+1) * U.length
theorem Wb.zero (bs:List Blk) (U:List Int) (left:Int->Bool) (h:∀x∈usP bs ((0:Nat):Int),left x=true):Wb bs U [] 0 left:=
 ⟨fun e he=>(by cases he),fun p x hp=>(by omega),fun x hx=> .inl (h x hx),by have:=List.length_filter_le left U;simp;omega⟩
theorem Wb.push {bs:List Blk} {U:List Int} {wk:List (Int × Int)} {m:Nat} {left:Int->Bool} (h:Wb bs U wk m left) {x:Int} (hx:x∈usP bs m) (hl:left x=true) (hU:x∈U):
 Wb bs U (wk ++ [((m:Int),x)]) m (fun z=>left z && decide (z≠x)):=
 ⟨fun e he=>(List.mem_append.1 he).elim (h.snd e) (fun e'=>by rw [List.mem_singleton.1 e'];exact hx),
  fun p y hp hy=>List.mem_append_left _ (h.cov p y hp hy),
  fun y hy=>by
   by_cases e:y=x
   ·subst e;exact .inr (by simp)
   ·exact (h.cur y hy).imp (fun g=>by simp [g,e]) (fun g=>List.mem_append_left _ g),
  by have h1:=h.len;have h2:=qF hU hl;rw [bB,cG];omega⟩
theorem Wb.next {bs:List Blk} {U:List Int} {wk:List (Int × Int)} {m:Nat} {left:Int->Bool} (h:Wb bs U wk m left) (hl:∀x,left x=false) (left':Int->Bool) (h':∀x∈usP bs ((m+1:Nat):Int),left' x=true):Wb bs U wk (m+1) left':=
 ⟨h.snd,fun p x hp hx=>by
   by_cases e:p=m
   ·subst e;exact (h.cur x hx).elim (fun g=>by rw [hl] at g;cases g) id
   ·exact h.cov p x (by omega) hx,
  fun x hx=> .inl (h' x hx),
  by have h1:=h.len;have h2:=List.length_filter_le left' U;rw [Nat.succ_mul];omega⟩
theorem Wb.more {bs:List Blk} {U:List Int} {wk:List (Int × Int)} {m:Nat} {left left':Int->Bool} (h:Wb bs U wk m left) (h':∀x,left x=true->left' x=true) (hl:(U.filter left').length<=(U.filter left).length):Wb bs U wk m left':=
 ⟨h.snd,h.cov,fun x hx=>(h.cur x hx).imp (h' x) id,by have:=h.len;omega⟩
theorem Wb.start {bs:List Blk} {U:List Int} {wk:List (Int × Int)} {m:Nat} {left:Int->Bool} (h:Wb bs U wk m left) (hm:cntB bs<=m):Wk bs U (fun _=>[]) wk (fun _ _ _=>False):=
 Wk.start h.snd (fun p x hx=>by
  have hp:0<=p/\p<(cntB bs:Int):=by
   cases e:locB bs p with
   | none=>rw [iC e] at hx;cases hx
   | some q=>exact mH e
  obtain ⟨k,rfl⟩:=bG hp.1
  exact h.cov k x (by omega) hx)
theorem Wb.all {bs:List Blk} {U:List Int} {wk:List (Int × Int)} {m:Nat} {left:Int->Bool} (h:Wb bs U wk m left):wk.length<=(m+1) * U.length:=by have:=h.len;omega
def Wx (bs:List Blk) (U:List Int) (L:Int->List Int) (wk:List (Int × Int)) (p x:Int) (l:List Int) (i:Nat):Prop:=
 Wk bs U L wk (fun p' q' y=>(q'=p/\y=x)/\p'∈l.drop i)
theorem Wx.start {bs:List Blk} {U:List Int} {L:Int->List Int} {wk:List (Int × Int)} {p x:Int} {l:List Int} (h:Wk bs U L (wk ++ [(p,x)]) (fun _ _ _=>False)) (hx:x∉L p) (hU:x∈U) (hl:∀q,folP bs q p->q∈l):Wx bs U (addL L p x) wk p x l 0:=
 (h.new hx hU).ex (fun p' q' y hf e=>⟨e,by rw [bW];rw [e.1] at hf;exact hl p' hf⟩)
theorem xG {l:List Int} {i:Nat} {q:Int} (hi:l[i]?=some q) (z:Int) (hz:z∈l.drop i):z=q\/z∈l.drop (i+1):=by
 obtain ⟨hl,e⟩:=List.getElem?_eq_some_iff.1 hi;rw [cH hl,e] at hz;exact List.mem_cons.1 hz
theorem Wx.push {bs:List Blk} {U:List Int} {L:Int->List Int} {wk:List (Int × Int)} {p x q:Int} {l:List Int} {i:Nat} (h:Wx bs U L wk p x l i) (hv:Lv bs x p) (hi:l[i]?=some q) (hq:folP bs q p) (hd:dfP bs q≠some x):Wx bs U L (wk ++ [(q,x)]) p x l (i+1):=
 Wk.push (E:=fun z=>z∈l.drop i) (E':=fun z=>z∈l.drop (i+1)) h hv hq hd (xG hi)
theorem Wx.pass {bs:List Blk} {U:List Int} {L:Int->List Int} {wk:List (Int × Int)} {p x q:Int} {l:List Int} {i:Nat} (h:Wx bs U L wk p x l i) (hi:l[i]?=some q) (hd:dfP bs q=some x):Wx bs U L wk p x l (i+1):=
 Wk.pass (E:=fun z=>z∈l.drop i) (E':=fun z=>z∈l.drop (i+1)) h hd (xG hi)
theorem Wx.done {bs:List Blk} {U:List Int} {L:Int->List Int} {wk:List (Int × Int)} {p x:Int} {l:List Int} {i:Nat} (h:Wx bs U L wk p x l i) (hi:l.length<=i):Wk bs U L wk (fun _ _ _=>False):=
 Wk.ex h (fun p' _ _ _ e=>by have:=e.2;rw [bE hi] at this;cases this)
theorem Wb.set {bs:List Blk} {U:List Int} {wk:List (Int × Int)} {m:Nat} (h:Wb bs U wk m (fun _=>true)) (left':Int->Bool) (h':∀x∈usP bs m,left' x=true):Wb bs U wk m left':=
 ⟨h.snd,h.cov,fun x hx=> .inl (h' x hx),by
   have h1:=h.len;have h2:=List.length_filter_le left' U;rw [List.filter_eq_self.2 (fun _ _=>rfl)] at h1
   omega⟩
def msW (M n t k:Nat):Nat:=(M - t) * (n+1)+k
theorem xDH {M n t k:Nat}:msW M n t k<msW M n t (k+1):=by unfold msW;omega
def TyOk (ts:List Ty):Prop:=∀i (h:i<ts.length),(ts[i].kind=3->0<=ts[i].elem/\ts[i].elem<i/\ts[i].flds=[])/\∀f∈ts[i].flds,0<=f/\f<i
theorem fY {ts:List Ty} (hok:TyOk ts):∀(f g:Nat) (i:Int),i.toNat<f->i.toNat<g->copF ts f i=copF ts g i
 | 0,_,_,h,_=>absurd h (by omega)
 | _,0,_,_,h=>absurd h (by omega)
 | f+1,g+1,i,h,h2=>by
   rw [copF,copF];by_cases hi:i<0
   ·rw [bA hi,bA hi]
   rw [aZ hi,aZ hi];by_cases hlt:i.toNat<ts.length
   ·rw [bD hlt];simp only;split
    ·rfl
    ·rw [bQ,List.all_eq_true,List.all_eq_true];have hf:=(hok i.toNat hlt).2;constructor <;> intro h0 x hx
     ·rw [<- fY hok f g x (by have:=hf x hx;omega) (by have:=hf x hx;omega)];exact h0 x hx
     ·rw [fY hok f g x (by have:=hf x hx;omega) (by have:=hf x hx;omega)];exact h0 x hx
   ·rw [cE (by omega)]
theorem qK {ts:List Ty} (hok:TyOk ts) {i:Nat} (h:i<ts.length):copB ts i=if ts[i].kind=3 then !ts[i].mu else ts[i].flds.all (copB ts):=by
 unfold copB;rw [bV,copF,aZ (by omega),bV,bD h];simp only;split
 ·rfl
 ·rw [bQ,List.all_eq_true,List.all_eq_true];have hf:=(hok i h).2;constructor <;> intro h0 x hx
  ·rw [fY hok _ i x (by omega) (by have:=hf x hx;omega)];exact h0 x hx
  ·rw [fY hok i _ x (by have:=hf x hx;omega) (by omega:x.toNat<x.toNat+1)];exact h0 x hx
theorem sH {ts:List Ty} {i:Int} (h:i<0\/(ts.length:Int)<=i):copB ts i=false:=by
 unfold copB;rw [copF];by_cases hi:i<0
 ·rw [bA hi]
 ·rw [aZ hi,cE (by omega)]
theorem rH (ts:List Ty) (hok:TyOk ts):∀(m:Nat) (i:Int),i.toNat<m->∀(A:Option Addr) (c:Nat) (w:World),Slc 5 RTy w A c ts->
 Calls Tryz.prog 131 #[.slice A ts.length c,.int .i64 i] w fun e' w'=>e' = .returned (.bool (copB ts i))/\w'=w
 | 0,_,h=>absurd h (by omega)
 | m+1,i,hm=>by
   intro A c w hs;have hle:=hs.le;have hbig:=hs.big;have HS:=aF hs;have HREC:=aF (fun (f:Int) (hf:f.toNat<m)=>rH ts hok m f hf A c w hs);clear hs;by_cases hr:0<=i/\i<(ts.length:Int)
   case neg=>
    rw [sH (by omega)];go_enter Tryz.func131,Tryz.ntmps131
    go_wp2_with fail
    all_goals first
     | (exfalso;omega)
     | (go_ret;exact ⟨rfl,rfl⟩)
   case pos=>
   obtain ⟨k,rfl⟩:=bG hr.1;have hlt:k<ts.length:=by omega
   obtain ⟨b,o,rfl,hb,hx⟩:=HS.out.sl.at_ hlt;have HQ:=aF (qK hok hlt);have HOKK:=aF (hok k hlt);obtain ⟨t,ht⟩:∃t,ts[k]=t:=⟨_,rfl⟩;rw [ht] at HQ HOKK hx;generalize copB ts (k:Int)=q at HQ ⊢;obtain ⟨r1,r2,r3,r4,A2,c2,r5,r6,r7,r8⟩:=hx;have HFL:Hid (Slc 1 RInt w A2 c2 t.flds):=aF ⟨r8,r6,r7⟩;have hk1:k<m+1:=by simpa using hm
   have e0:¬(k:Int)<0:=by omega
   have e1:¬(ts.length:Int)<=(k:Int):=by omega
   clear r8 ht hr hm;go_enter Tryz.func131,Tryz.ntmps131
   go_wp2_with fail
   go_loop [5] (fun v=>∃j:Nat,j<=t.flds.length/\v = .int .i64 j/\Hid (∀u,(t.flds.take j).all (copB ts)=true/\(u=j->True))) (fun v=>t.flds.length - (intOf v).toNat)
   case atStart=>exact ⟨0,by omega,rfl,aF (fun _=>⟨by simp,fun _=>trivial⟩)⟩
   case round=>
    obtain ⟨j,hj,rfl,HJ⟩:=hrel;by_cases hjl:j<t.flds.length
    ·obtain ⟨b3,o3,rfl,hb3,hy⟩:=HFL.out.sl.at_ hjl;have HTK:Hid ((t.flds.take (j+1)).all (copB ts)=((t.flds.take j).all (copB ts) && copB ts t.flds[j])):=aF (by rw [bF hjl,List.all_append];simp);have HMEM:=aF (bM hjl);obtain ⟨y,hyy⟩:∃y,t.flds[j]=y:=⟨_,rfl⟩;rw [hyy] at hy HTK HMEM;have y0:w.cell? ⟨b3,o3+j,none⟩=some (.int .i64 y):=(by simpa [RInt] using hy);have HC:=aF (HREC.out y (by have:=HOKK.out.2 y HMEM.out;omega))
     have HF:Hid (copB ts y=false->q=false):=aF (fun h=>by
      rw [HQ.out,aZ (fun h3=>by have:=(HOKK.out.1 h3).2.2;rw [this] at hjl;simp at hjl)];rw [Bool.eq_false_iff,ne_eq,List.all_eq_true]
      exact fun h0=>by have:=h0 y HMEM.out;rw [h] at this;cases this)
     clear hy hyy;cases hcy:copB ts y
     ·rw [hcy] at HC;have HF':=aF (HF.out hcy);clear HF HJ hcy;go_wp2_with (go_at_call 131;refine HC.out.mono ?_;rintro e' w1 ⟨rfl,hw⟩;obtain rfl:=hw.symm)
      go_ret;exact ⟨by rw [HF'.out];rfl,rfl⟩
     ·rw [hcy] at HC;have HJ':Hid (∀u,(t.flds.take (j+1)).all (copB ts)=true/\(u=j+1->True)):=aF (fun u=>⟨by rw [HTK.out,(HJ.out 0).1,hcy];rfl,fun _=>trivial⟩);clear HF HJ hcy;go_wp2_with (go_at_call 131;refine HC.out.mono ?_;rintro e' w1 ⟨rfl,hw⟩;obtain rfl:=hw.symm)
      go_round
      case rel=>exact ⟨j+1,by omega,by go_num,HJ'⟩
      case measure=>simp [intOf];omega
    ·have hall:t.flds.all (copB ts)=true:=by have:=(HJ.out 0).1;rwa [List.take_of_length_le (by omega)] at this
     by_cases h3:t.kind=3
     ·have HF:Hid (q = !t.mu):=aF (by rw [HQ.out,bA h3]);have e5:(t.kind != 3)=false:=by simp [h3]
      clear HJ hall HQ;go_wp2_with fail
      go_ret;exact ⟨by rw [HF.out];rfl,rfl⟩
     ·have HF:Hid (q=true):=aF (by rw [HQ.out,aZ h3,hall]);have e5:(t.kind != 3)=true:=by simp [h3]
      clear HJ hall HQ;go_wp2_with fail
      go_ret;exact ⟨by rw [HF.out];rfl,rfl⟩
def subS (pairs:List (Int × Int)) (n:Int) (S:Int->Int->Bool) (a b:Ty):Bool:=
 decide (a.kind=b.kind) && decide (a.mu=b.mu) && decide (a.flds.length=b.flds.length) && (a.flds.zip b.flds).all (fun p=>S p.1 p.2) &&
  (decide (a.kind≠3) || (outB pairs n a.reg b.reg && S a.elem b.elem && (!a.mu || S b.elem a.elem)))
theorem iG (pairs:List (Int × Int)) (n:Int) (ts:List Ty) (f:Nat) (s t:Int):subF pairs n ts (f+1) s t=if s<0\/t<0 then false else match ts[s.toNat]?,ts[t.toNat]? with
 | some a,some b=>subS pairs n (subF pairs n ts f) a b
 | _,_=>false:=rfl
theorem kY {pairs:List (Int × Int)} {n:Int} {S S':Int->Int->Bool} {a b:Ty} (h:∀x∈a.flds,∀y∈b.flds,S x y=S' x y) (h3:a.kind=3->b.kind=3->S a.elem b.elem=S' a.elem b.elem/\S b.elem a.elem=S' b.elem a.elem):
 subS pairs n S a b=subS pairs n S' a b:=by
 unfold subS
 have e1:(a.flds.zip b.flds).all (fun p=>S p.1 p.2)=(a.flds.zip b.flds).all (fun p=>S' p.1 p.2):=by
  rw [bQ,List.all_eq_true,List.all_eq_true];constructor
  ·intro g p hp;have:=List.of_mem_zip hp;rw [<- h p.1 this.1 p.2 this.2];exact g p hp
  ·intro g p hp;have:=List.of_mem_zip hp;rw [h p.1 this.1 p.2 this.2];exact g p hp
 rw [e1];by_cases hk:a.kind=b.kind
 ·by_cases ha:a.kind=3
  ·obtain ⟨h4,h5⟩:=h3 ha (hk ▸ ha);rw [h4,h5]
  ·simp [ha]
 ·simp [hk]
theorem eM {pairs:List (Int × Int)} {n:Int} {ts:List Ty} (hok:TyOk ts):∀(f g:Nat) (s t:Int),s.toNat+t.toNat<f->s.toNat+t.toNat<g->subF pairs n ts f s t=subF pairs n ts g s t
 | 0,_,_,_,h,_=>absurd h (by omega)
 | _,0,_,_,_,h=>absurd h (by omega)
 | f+1,g+1,s,t,h,h2=>by
   rw [iG,iG];by_cases hi:s<0\/t<0
   ·rw [bA hi,bA hi]
   rw [aZ hi,aZ hi];by_cases hs:s.toNat<ts.length
   ·by_cases ht:t.toNat<ts.length
    ·rw [bD hs,bD ht];simp only;refine kY ?_ ?_
     ·intro x hx y hy;have h5:=(hok _ hs).2 x hx;have h6:=(hok _ ht).2 y hy;exact eM hok f g x y (by omega) (by omega)
     ·intro ha hb;obtain ⟨a1,a2,-⟩:=(hok _ hs).1 ha;obtain ⟨b1,b2,-⟩:=(hok _ ht).1 hb;exact ⟨eM hok f g _ _ (by omega) (by omega),eM hok f g _ _ (by omega) (by omega)⟩
    ·rw [cE (by omega:ts.length<=t.toNat)];cases ts[s.toNat]? <;> rfl
   ·rw [cE (by omega:ts.length<=s.toNat)]
theorem iX {b:Bdy} (hok:TyOk b.types) {s t:Nat} (hs:s<b.types.length) (ht:t<b.types.length):
 subB b s t=subS b.outl b.regions.length (subB b) b.types[s] b.types[t]:=by
 have e:subB b s t=subF b.outl b.regions.length b.types (s+t+1) s t:=rfl;rw [e,iG,aZ (by omega)];simp only [bV];rw [bD hs,bD ht];simp only;refine kY ?_ ?_
 ·intro x hx y hy;have h5:=(hok _ hs).2 x hx;have h6:=(hok _ ht).2 y hy;exact eM hok _ _ x y (by omega) (by omega)
 ·intro ha hb;obtain ⟨a1,a2,-⟩:=(hok _ hs).1 ha;obtain ⟨b1,b2,-⟩:=(hok _ ht).1 hb;exact ⟨eM hok _ _ _ _ (by omega) (by omega),eM hok _ _ _ _ (by omega) (by omega)⟩
theorem qZ {b:Bdy} {s t:Int} (h:s<0\/t<0\/(b.types.length:Int)<=s\/(b.types.length:Int)<=t):subB b s t=false:=by
 have e:subB b s t=subF b.outl b.regions.length b.types (s.toNat+t.toNat+1) s t:=rfl;rw [e,iG];by_cases hi:s<0\/t<0
 ·rw [bA hi]
 rw [aZ hi];by_cases hs:s.toNat<b.types.length
 ·rw [cE (by omega:b.types.length<=t.toNat)];cases b.types[s.toNat]? <;> rfl
 ·rw [cE (by omega:b.types.length<=s.toNat)]
def CovT (ts:List Ty) (sl:List Int) (i:Int):Prop:=∃(h:i.toNat<ts.length),0<=i/\((ts[i.toNat].kind=3/\ts[i.toNat].mu=false)\/(ts[i.toNat].kind≠3/\i∈sl))
theorem CovT.mono {ts:List Ty} {sl sl':List Int} {i:Int} (h:CovT ts sl i) (hs:∀x∈sl,x∈sl'):CovT ts sl' i:=by
 obtain ⟨h1,h2,h3⟩:=h;exact ⟨h1,h2,h3.imp id (fun h=>⟨h.1,hs _ h.2⟩)⟩
theorem sG {ts:List Ty} (hok:TyOk ts) {sl:List Int} (hc:∀x∈sl,∀(h:x.toNat<ts.length),0<=x->ts[x.toNat].kind≠3->∀f∈ts[x.toNat].flds,CovT ts sl f):∀(m:Nat) (i:Int),i.toNat<m->CovT ts sl i->copB ts i=true
 | 0,_,h,_=>absurd h (by omega)
 | m+1,i,hm,⟨h1,h2,h3⟩=>by
   obtain ⟨k,rfl⟩:=bG h2;simp only [bV] at h1 h3 hm;rw [qK hok h1];rcases h3 with ⟨h3,h4⟩ | ⟨h3,h4⟩
   ·rw [bA h3,h4];rfl
   ·rw [aZ h3,List.all_eq_true];intro f hf;have hfr:=(hok k h1).2 f hf;exact sG hok hc m f (by omega) (hc _ h4 (by simpa using h1) h2 (by simpa using h3) f (by simpa using hf))
end
section
open Go Go.RowKit
structure Qat (w:World) (base:Nat) (e:TypeId) (g p n cap:Nat) (cur:Array Value) (xs:List Value):Prop where
 low:base<=g
 heap:w.heap[g]?=some (.cells cur e (0,0))
 len:xs.length=n
 le:n<=cap
 big:cap<=9223372036854775807
 fit:p+cap<=cur.size
 row:(cur.toList.drop p).take n=xs
def Qu (w:World) (base:Nat) (e:TypeId) (v:Value) (xs:List Value):Prop:=
 (v = .slice none 0 0/\xs=[])\/∃g p n cap cur,v = .slice (some ⟨g,p,none⟩) n cap/\Qat w base e g p n cap cur xs
theorem Qat.cell {w:World} {base g p n cap:Nat} {e:TypeId} {cur:Array Value} {xs:List Value} (h:Qat w base e g p n cap cur xs) (j:Nat) (u:Value) (hj:xs[j]?=some u):w.cell? ⟨g,p+j,none⟩=some u:=by
 have hlt:j<n:=by rw [<- h.len];exact (List.getElem?_eq_some_iff.1 hj).1
 rw [<- h.row,List.getElem?_take,bA hlt,List.getElem?_drop] at hj;simp only [World.cell?,h.heap];simpa using hj
theorem Qu.lt {w:World} {base:Nat} {e:TypeId} {v:Value} {xs:List Value} (h:Qu w base e v xs):∀k,v.ownBlock=some k->base<=k/\k<w.heap.size:=by
 rcases h with ⟨rfl,_⟩ | ⟨g,p,n,cap,cur,rfl,hq⟩
 ·intro k hk;cases hk
 ·intro k hk;injection hk with hk
  subst hk;exact ⟨hq.low,(Array.getElem?_eq_some_iff.1 hq.heap).1⟩
theorem Qu.block {w w':World} {base:Nat} {e:TypeId} {v:Value} {xs:List Value} (h:Qu w base e v xs) (hb:∀k,v.ownBlock=some k->w'.heap[k]?=w.heap[k]?):Qu w' base e v xs:=by
 rcases h with ⟨rfl,hx⟩ | ⟨g,p,n,cap,cur,rfl,hq⟩
 ·exact .inl ⟨rfl,hx⟩
 ·exact .inr ⟨g,p,n,cap,cur,rfl,hq.low,(hb g rfl).trans hq.heap,hq.len,hq.le,hq.big,hq.fit,hq.row⟩
theorem Qu.below {w w':World} {base:Nat} {e:TypeId} {v:Value} {xs:List Value} (h:Qu w base e v xs) (hb:Below w.heap.size w w'):Qu w' base e v xs:=
 h.block (fun k hk=>hb.block k (h.lt k hk).2)
theorem Qu.slice {w:World} {base:Nat} {e:TypeId} {v:Value} {xs:List Value} (h:Qu w base e v xs):∃A c,v = .slice A xs.length c/\xs.length<=c/\c<=9223372036854775807:=by
 rcases h with ⟨rfl,rfl⟩ | ⟨g,p,n,cap,cur,rfl,hq⟩
 ·exact ⟨none,0,rfl,by simp,by omega⟩
 ·exact ⟨_,cap,by rw [hq.len],by rw [hq.len];exact hq.le,hq.big⟩
theorem Qu.one (W:World) (base:Nat) (e:TypeId) (x:Value) (k:Nat) (hk:k=W.heap.size) (hb:base<=k):Qu (W.alloc (.cells #[x] e)) base e (.slice (some ⟨k,0,none⟩) 1 1) [x]:=by
 subst hk;exact .inr ⟨_,0,1,1,#[x],rfl,hb,Array.getElem?_push_size,rfl,by omega,by omega,by simp,by simp⟩
theorem Qu.tail {w:World} {base:Nat} {e:TypeId} {x:Value} {r:List Value} {A:Option Addr} {n c:Nat} (h:Qu w base e (.slice A n c) (x :: r)):
 ∃g p,A=some ⟨g,p,none⟩/\n=r.length+1/\n<=c/\c<=9223372036854775807/\w.cell? ⟨g,p,none⟩=some x/\Qu w base e (.slice (if c=1 then A else A.map (·.add (1 * 1))) (n - 1) (c - 1)) r:=by
 rcases h with ⟨_,h⟩ | ⟨g,p,n',cap,cur,hv,hq⟩
 ·cases h
 ·obtain ⟨rfl,rfl,rfl⟩:A=some ⟨g,p,none⟩/\n=n'/\c=cap:=by simpa using hv
  have hl:=hq.len;simp only [bK] at hl;refine ⟨g,p,rfl,by omega,hq.le,hq.big,by simpa using hq.cell 0 x rfl,?_⟩;have hle:=hq.le;have hbig:=hq.big;have hfit:=hq.fit;by_cases h1:c=1
  ·rw [bA h1];refine .inr ⟨g,p,n - 1,c - 1,cur,rfl,hq.low,hq.heap,by omega,by omega,by omega,by omega,?_⟩;have hr0:r=[]:=bU (by omega);have:n - 1=0:=by omega
   rw [this,List.take_zero,hr0]
  ·rw [aZ h1];refine .inr ⟨g,p+1,n - 1,c - 1,cur,by simp [Addr.add],hq.low,hq.heap,by omega,by omega,by omega,by omega,?_⟩;have hr:=hq.row;rw [<- List.drop_drop];cases hd:cur.toList.drop p with
   | nil=>rw [hd] at hr;simp at hr
   | cons y t=>
     rw [hd,show n=(n - 1)+1 by omega,List.take_succ_cons] at hr;have hr2:=(List.cons.inj hr).2;simpa using hr2
section
variable {P:Program}
theorem gW (w:World) (t ty e:TypeId) (i:TypeInfo) (ht:P.underlying t=some (.slice e)) (hi:P.info? e=some i)
 (g p sLen sCap:Nat) (cur:Array Value) (hg:w.heap[g]?=some (.cells cur e (0,0)))
 (a:Addr) (m c:Nat) (news:List Value) (hl:news.length=m * i.size) (hnews:∀j u,news[j]?=some u->w.cell? (a.add j)=some u) (h1:∀u∈news,u.oneCell'=true)
 (hroom:sLen+m<=sCap) (hfit:p+sLen * i.size+news.length<=cur.size):
 (Builtin.append_ #[t,t] ty #[.slice (some ⟨g,p,none⟩) sLen sCap,.slice (some a) m c]).run P w =
   .ok (.slice (some ⟨g,p,none⟩) (sLen+m) sCap) (w.setRow g (cur.toList.take (p+sLen * i.size) ++ news ++ cur.toList.drop (p+sLen * i.size+news.length)).toArray):=by
 have hf:=run_firstCells_some (P:=P) w i.size m a m c news hl hnews;have hst:=run_storeCells_at P g (p+sLen * i.size) e news 0 cur w hg (by simpa using hfit) h1;simp only [Nat.add_zero] at hst;simp [Builtin.append_,run_underlying ht,sizeOf,typeInfo,hi,Builtin.lenOf,hroom,hf,Addr.add_lit,hst]
theorem Qu.append {w:World} {base:Nat} {t ty e:TypeId} {i:TypeInfo} {z:Value} (ht:P.underlying t=some (.slice e)) (hi:P.info? e=some i) (hz:i.zero=some z) (hsize:i.size=1) (hby:i.bytes<=16) (hzs:z.cells.size=1)
 {v:Value} {xs:List Value} (h:Qu w base e v xs) (a:Addr) (c:Nat) (x:Value) (hx:w.cell? a=some x) (h1:x.oneCell'=true) (hlen:xs.length+1<=1099511627776) (hb:base<=w.heap.size):
 ∃v' w',(Builtin.append_ #[t,t] ty #[v,.slice (some a) 1 c]).run P w = .ok v' w'/\Qu w' base e v' (xs ++ [x])/\w.grownBy w' v.ownBlock:=by
 have hnews:∀j u,[x][j]?=some u->w.cell? (a.add j)=some u:=fun j u hj=>by
  cases j with
  | zero=>
    simp at hj;subst hj;simpa [Addr.add] using hx
  | succ j=>simp at hj
 have grown:∀(old:Nat) (row:Option Nat),Qu (w.drew.alloc (.cells (xs.toArray ++ [x].toArray ++ Builtin.zeroCells z.cells (grownCap w (xs.length+1) old e - (xs.length+1))) e)) base e (.slice (some ⟨w.heap.size,0,none⟩) (xs.length+1) (grownCap w (xs.length+1) old e)) (xs ++ [x])/\
  w.grownBy (w.drew.alloc (.cells (xs.toArray ++ [x].toArray ++ Builtin.zeroCells z.cells (grownCap w (xs.length+1) old e - (xs.length+1))) e)) row:=by
  intro old row;have hge:=grownCap_ge w (xs.length+1) old e;have hcm:grownCap w (xs.length+1) old e<=maxLen:=grownCap_le_maxLen w (xs.length+1) old e (by unfold maxLen;omega)
  have hs:(xs.toArray ++ [x].toArray ++ Builtin.zeroCells z.cells (grownCap w (xs.length+1) old e - (xs.length+1))).size=grownCap w (xs.length+1) old e:=by
   simp only [Array.size_append,List.size_toArray,size_zeroCells,hzs,cG];omega
  refine ⟨.inr ⟨w.heap.size,0,xs.length+1,_,_,rfl,hb,heap_alloc_new w.drew _,by simp,hge,by unfold maxLen at hcm;omega,by rw [hs];omega,?_⟩,⟨rfl,rfl,rfl,by simp,fun k hk _=>heap_alloc_old w.drew _ hk⟩⟩;simp only [Array.toList_append,bW];have:(xs ++ [x]).length=xs.length+1:=by simp
  rw [<- this];exact List.take_left
 rcases h with ⟨rfl,rfl⟩ | ⟨g,p,n,cap,cur,rfl,hq⟩
 ·have hrun:=run_append_nil (P:=P) w t ty e i z ht hi hz a 1 c [x] (by simp [hsize]) hnews (by omega) (by omega) (by omega);refine ⟨_,_,hrun,?_⟩;have:=grown 0 (Value.slice none 0 0).ownBlock;simpa using this
 ·have hl:=hq.len;by_cases hroom:n+1<=cap
  ·have hfit:=hq.fit;have hrun:=gW (P:=P) w t ty e i ht hi g p n cap cur hq.heap a 1 c [x] (by simp [hsize]) hnews (by simpa using h1) hroom (by rw [hsize];simp;omega);rw [hsize,Nat.mul_one] at hrun;refine ⟨_,_,hrun,.inr ⟨g,p,n+1,cap,(cur.toList.take (p+n) ++ [x] ++ cur.toList.drop (p+n+[x].length)).toArray,rfl,hq.low,?_,by simp [hl],hroom,hq.big,?_,?_⟩,?_⟩
   ·exact setRow_heap w g cur _ e (0,0) hq.heap
   ·simp;omega
   ·have hA:(cur.toList.take (p+n)).drop p=xs:=by
     rw [<- hq.row,List.drop_take,show p+n - p=n by omega]
    have hp:p<=(cur.toList.take (p+n)).length:=by simp;omega
    simp only [cG,List.append_assoc];rw [List.drop_append_of_le_length hp,hA,List.take_append,List.take_of_length_le (by omega),hl,show n+1 - n=1 by omega];rfl
   ·exact ⟨rfl,rfl,rfl,by simp,fun k _ hk=>setRow_other w g k _ (fun h=>hk (by rw [h];rfl))⟩
  ·have hby2:(n+1) * i.bytes<=140737488355328:=by
    have h2:(n+1) * i.bytes<=(n+1) * 16:=Nat.mul_le_mul_left _ hby;omega
   have hold:∀j u,xs[j]?=some u->w.cell? ((⟨g,p,none⟩:Addr).add j)=some u:=fun j u hj=>by rw [Addr.add_lit];exact hq.cell j u hj
   have hfit:=growslice_fits (need:=n+1) (old:=cap) (bytes:=i.bytes) (by omega) hby2;have h63:((n+1:Nat):Int)<=9223372036854775807:=by omega
   have hg1:cap<n+1:=by omega
   have hlo:xs.length=n * i.size:=by rw [hsize,hl,Nat.mul_one]
   have hln:[x].length=1 * i.size:=by rw [hsize];rfl
   have hrun:=run_append_grow (P:=P) w t ty e i z ht hi hz ⟨g,p,none⟩ n cap xs hlo hold a 1 c [x] hln hnews hg1 h63 hfit;subst hl;exact ⟨_,_,hrun,grown cap _⟩
end
theorem kT {P:Program} (w:World) {ops:Array Oper} {rest:List Oper} {o:Oper} {a:Act} {Q:Exit->Act->World->Prop} (hgd:o.guard=none) (s x:Operand) (t:TypeId)
 (ho:o.op = .call { callee:= .builtin .append,args:= #[s,x],argTypes:= #[t,t] }) (base:Nat) (e:TypeId) (i:TypeInfo) (z:Value) (ht:P.underlying t=some (.slice e)) (hi:P.info? e=some i) (hz:i.zero=some z) (hsize:i.size=1) (hby:i.bytes<=16) (hzs:z.cells.size=1)
 (v:Value) (xs:List Value) (hs:a.eval s=v) (h:Qu w base e v xs) (ad:Addr) (c:Nat) (y:Value) (hx:a.eval x = .slice (some ad) 1 c) (hy:w.cell? ad=some y) (h1:y.oneCell'=true) (hlen:xs.length+1<=1099511627776) (hb:base<=w.heap.size)
 (hK:∀v' w',Qu w' base e v' (xs ++ [y])->w.grownBy w' v.ownBlock->wpList P ops Q rest (a.put o.dst v') w'):wpList P ops Q (o :: rest) a w:=by
 refine wpList_plain hgd fun K' hK'=>?_
 obtain ⟨v',w',hrun,h2,h3⟩:=h.append (ty:=o.type) ht hi hz hsize hby hzs ad c y hy h1 hlen hb;unfold Oper.wp execOp;simp only [ho,resolve,invoke,builtin,Sem.run_bind,Sem.run_pure,Result.andThen_ok,List.map_toArray,cJ,List.map_nil,hs,hx,hrun];exact hK' _ _ (hK v' w' h2 h3)
end
section
open Go Go.RowKit Go.Maps
theorem qD (r:Nat) (n a:Int) (w:World) (x0:w.cell? ⟨r,0,none⟩=some (.int .i64 n)):
 Calls Tryz.prog 80 #[.pointer (some ⟨r,0,none⟩),.int .i64 a] w fun e' w'=>e' = .returned (.bool (decide (0<=a) && decide (a<n)))/\w'=w:=by
 obtain ⟨q,hq⟩:∃q,(decide (0<=a) && decide (a<n))=q:=⟨_,rfl⟩;rw [hq];have HQ:=aF hq;clear hq;go_enter Tryz.func80,Tryz.ntmps80
 go_wp2_with fail
 all_goals
  go_ret;refine ⟨?_,rfl⟩;rw [<- HQ.out]
  first
   | (simp_all;done)
   | (simp_all;omega)
structure Bfs (pairs:List (Int × Int)) (n:Nat) (a b:Int) (sl qs:List Int) (ex:Int->Prop):Prop where
 nd:sl.Nodup
 rng:∀x∈sl,0<=x/\x<(n:Int)
 rch:∀x∈sl,Rch pairs a x
 sub:∀x∈qs,x∈sl
 cls:∀x∈sl,x∉qs->¬ex x->∀y,(x,y)∈pairs->y∈sl
 tgt:b∈sl->b=a
 hd:a∈sl
theorem Bfs.start {pairs:List (Int × Int)} {n:Nat} {a b:Int} (h0:0<=a) (h1:a<n):Bfs pairs n a b [a] [a] (fun _=>False):=
 ⟨by simp,by simp;omega,fun x hx=>by rw [bR] at hx;subst hx;exact .refl x,fun x hx=>hx,fun x hx hq=>absurd hx hq,fun h=>by simpa using h,by simp⟩
theorem Bfs.pop {pairs:List (Int × Int)} {n:Nat} {a b x:Int} {sl qs:List Int} (h:Bfs pairs n a b sl (x :: qs) (fun _=>False)):Bfs pairs n a b sl qs (fun u=>u=x):=
 ⟨h.nd,h.rng,h.rch,fun y hy=>h.sub y (by simp [hy]),fun y hy hq hne=>h.cls y hy (by simp only [cL,not_or];exact ⟨hne,hq⟩) (fun f=>f),h.tgt,h.hd⟩
theorem Bfs.push {pairs:List (Int × Int)} {n:Nat} {a b x y:Int} {sl qs:List Int} (h:Bfs pairs n a b sl qs (fun u=>u=x)) (hx:x∈sl) (hr:∀p∈pairs,0<=p.1/\p.1<(n:Int)/\0<=p.2/\p.2<(n:Int)) (hp:(x,y)∈pairs) (hy:y∉sl) (hb:y≠b):
 Bfs pairs n a b (y :: sl) (qs ++ [y]) (fun u=>u=x):=by
 refine ⟨List.nodup_cons.2 ⟨hy,h.nd⟩,?_,?_,?_,?_,?_,by simp [h.hd]⟩
 ·intro u hu;rcases List.mem_cons.1 hu with rfl | hu
  ·have:=hr _ hp;exact ⟨this.2.2.1,this.2.2.2⟩
  ·exact h.rng u hu
 ·intro u hu;rcases List.mem_cons.1 hu with rfl | hu
  ·exact .step (h.rch x hx) hp
  ·exact h.rch u hu
 ·intro u hu;rcases List.mem_append.1 hu with hu | hu
  ·exact List.mem_cons_of_mem _ (h.sub u hu)
  ·rw [bR] at hu;subst hu;simp
 ·intro u hu hq hne z hz;simp only [cK,bR,not_or] at hq;rcases List.mem_cons.1 hu with rfl | hu
  ·exact absurd rfl hq.2
  ·exact List.mem_cons_of_mem _ (h.cls u hu hq.1 hne z hz)
 ·intro hbs;rcases List.mem_cons.1 hbs with e | hbs
  ·exact absurd e.symm hb
  ·exact h.tgt hbs
theorem Bfs.close {pairs:List (Int × Int)} {n:Nat} {a b x:Int} {sl qs:List Int} (h:Bfs pairs n a b sl qs (fun u=>u=x)) (hx:∀y,(x,y)∈pairs->y∈sl):Bfs pairs n a b sl qs (fun _=>False):=
 ⟨h.nd,h.rng,h.rch,h.sub,fun u hu hq _ y hy=>by
   by_cases e:u=x
   ·subst e;exact hx y hy
   ·exact h.cls u hu hq e y hy,h.tgt,h.hd⟩
theorem Bfs.done {pairs:List (Int × Int)} {n:Nat} {a b:Int} {sl:List Int} (h:Bfs pairs n a b sl [] (fun _=>False)):b∈sl↔Rch pairs a b:=
 ⟨h.rch b,fun hr=>hr.closed (S:=fun u=>u∈sl) (fun x y hx hp=>h.cls x hx (by simp) (fun f=>f) y hp) h.hd⟩
theorem Bfs.len {pairs:List (Int × Int)} {n:Nat} {a b:Int} {sl qs:List Int} {ex:Int->Prop} (h:Bfs pairs n a b sl qs ex):sl.length<=n:=dR n sl h.nd h.rng
theorem zS {pairs:List (Int × Int)} {x y:Int}:y∈relL pairs false x↔(x,y)∈pairs:=by
 simp only [relL,Bool.false_eq_true,if_false,List.mem_map,List.mem_filter,decide_eq_true_eq];constructor
 ·rintro ⟨⟨p,q⟩,⟨h1,h2⟩,h3⟩;simp only at h2 h3;subst h2 h3;exact h1
 ·intro h;exact ⟨(x,y),⟨h,rfl⟩,rfl⟩
def inF (sl:List Int):Int->Bool:=fun x=>decide (x∈sl)
def i64F (g:Int->Bool):Lit->Bool
 | .int .i64 n=>g n
 | _=>false
theorem iA (sl:List Int) (y:Int):i64F (inF (y :: sl)) (.int .i64 y)=true:=by simp [i64F,inF]
theorem jC (sl:List Int) (y:Int):∀k,k≠Lit.int .i64 y->i64F (inF (y :: sl)) k=i64F (inF sl) k:=by
 intro k hk;cases k <;> try rfl
 rename_i q n;cases q <;> try rfl
 have:n≠y:=fun e=>hk (by rw [e])
 simp [i64F,inF,this]
theorem mK:i64F (inF [])=fun _=>false:=by
 funext k
 cases k <;> try rfl
 rename_i q n;cases q <;> rfl
theorem gC:∀w,(zeroValue 4).run Tryz.prog w = .ok (.bool false) w:=Tryz.zeroValue4
theorem jF (pairs:List (Int × Int)) (n:Nat) (a b:Int) (r:Nat) (w:World) (hR:Rel3 w r n (relL pairs)) (hr:∀p∈pairs,0<=p.1/\p.1<(n:Int)/\0<=p.2/\p.2<(n:Int)) (hn:n<=65536) (_hl:pairs.length<=65535):
 Calls Tryz.prog 191 #[.pointer (some ⟨r,0,none⟩),.int .i64 a,.int .i64 b] w fun e' w'=>e' = .returned (.bool (outB pairs n a b))/\Below w.heap.size w w':=by
 obtain ⟨M,hM,hLK⟩:=hR;obtain ⟨x0,x1,x2⟩:=jL hM;have HX0:=aF x0;by_cases hab:0<=a/\a<(n:Int)/\0<=b/\b<(n:Int)
 case neg=>
  have HF:Hid (outB pairs n a b=false):=aF (by unfold outB;rw [bA (by omega)]);rw [HF.out];clear hLK hM;by_cases ha:0<=a/\a<(n:Int)
  ·have e1:(decide (0<=a) && decide (a<(n:Int)))=true:=by simp [ha]
   have e2:(decide (0<=b) && decide (b<(n:Int)))=false:=by simp;omega
   have E1:=aF e1;have E2:=aF e2;clear e1 e2 ha hab;go_enter Tryz.func191,Tryz.ntmps191
   go_wp2_with fail
   go_step3
   go_wp2_with (go_at_call 80;refine (qD r n _ w HX0.out).mono ?_;rintro e' w1 ⟨rfl,hw⟩;obtain rfl:=hw.symm;first | rw [E1.out] | rw [E2.out])
   rw [Exit.noGoto_ret];go_ret;exact ⟨rfl,aX _ _⟩
  ·have e1:(decide (0<=a) && decide (a<(n:Int)))=false:=by simp;omega
   have E1:=aF e1;clear e1 ha hab;go_enter Tryz.func191,Tryz.ntmps191
   go_wp2_with fail
   go_step3
   go_wp2_with (go_at_call 80;refine (qD r n _ w HX0.out).mono ?_;rintro e' w1 ⟨rfl,hw⟩;obtain rfl:=hw.symm;rw [E1.out])
   rw [Exit.noGoto_ret];go_ret;exact ⟨rfl,aX _ _⟩
 case pos=>
  obtain ⟨ha0,ha1,hb0,hb1⟩:=hab;have HQ:=aF (xAB hr ha0 ha1 hb0 hb1);generalize outB pairs n a b=q at HQ ⊢;have e1:(decide (0<=a) && decide (a<(n:Int)))=true:=by simp [ha0,ha1]
  have e2:(decide (0<=b) && decide (b<(n:Int)))=true:=by simp [hb0,hb1]
  have E1:=aF e1;have E2:=aF e2;have HLK:=aF hLK;have HM:=aF hM;have keya:=key3 (a:=a) ha0 (by omega);obtain ⟨i0,hi,hz0,hz1,hz2⟩:=info_parts dU;have hmm:= @run_makeMap Tryz.prog;clear e1 e2 hLK hM;have hmade:=OwnB.made w Tryz.prog 3 4;rw [<- mK] at hmade;obtain ⟨w0,hrun0,hown0,hg0⟩:=hmade.store law3 Tryz.underlying74 Tryz.underlying4 (by unfold maxLen;omega) keya trivial true (iA [] a) (jC [] a);have hB0:Below w.heap.size w w0:=((aX _ _).alloc (aY _) _).trans (eH hg0 (aY _) (by simp));have hs0:w.heap.size+1<=w0.heap.size:=by have:=hg0.size;simpa using this
  have HOWN0:=aF hown0;have HB0:=aF hB0;clear hmade hown0 hg0 hB0;go_enter Tryz.func191,Tryz.ntmps191
  go_wp2_with fail
  go_step3
  go_wp2_with (first
   | (go_at_call 80;refine (qD r n _ w HX0.out).mono ?_;rintro e' w1 ⟨rfl,hw⟩;obtain rfl:=hw.symm;first | rw [E1.out] | rw [E2.out])
   | fail)
  go_step3
  go_wp2_with fail
  have keyb:=key3 (a:=b) hb0 (by omega);have HBF0:=aF (Bfs.start (pairs:=pairs) (b:=b) ha0 ha1);have HQ0:=aF (Qu.one w0 (w.heap.size+1) 3 (.int .i64 a) w0.heap.size rfl hs0);go_loopg [8] (2 * (n - 1)+1) (fun gk v wr=>∃(sl qs:List Int),gk=2 * (n - sl.length)+qs.length/\gk<=2 * n+1/\Hid (Bfs pairs n a b sl qs (fun _=>False))/\Hid (Qu wr (w.heap.size+1) 3 v (qs.map (Value.int .i64)))/\Hid (OwnB Tryz.prog 3 4 wr w.heap.size sl.length (i64F (inF sl)))/\Hid (Below w.heap.size w wr)/\w.heap.size+1<=wr.heap.size)
  case atStart=>exact ⟨[a],[a],by simp,by omega,HBF0,HQ0,aF (HOWN0.out.alloc _),aF (HB0.out.alloc HB0.out.size _),by simp;omega⟩
  case round=>
   clear HBF0 HQ0 HOWN0 HB0 hrun0;obtain ⟨sl,qs,hgk,hgk2,HBF,HQU,HOWN,HBL,hsz⟩:=hrel;cases qs with
   | nil=>
     obtain ⟨A,c,rfl,hc1,hc2⟩:=HQU.out.slice
     have HFIN:Hid (decide (b∈sl)=q):=aF (by
      rw [bQ,decide_eq_true_eq,HBF.out.done]
      exact HQ.out.symm)
     have hlk:=HOWN.out.look law3 Tryz.underlying74 Tryz.underlying4 (gC _) keyb;simp only [i64F,inF] at hlk;rw [HFIN.out] at hlk;simp only [List.map_nil,bO] at hc1 hc2 ⊢;clear HQU HOWN HBF;go_wp2_with fail
     rw [Exit.noGoto_ret];go_ret;exact ⟨rfl,HBL.out⟩
   | cons x qs=>
     obtain ⟨A,c,rfl,hc1,hc2⟩:=HQU.out.slice;obtain ⟨g,p,rfl,hlen,hle,hbig,y0,hq2⟩:=HQU.out.tail;have hbf:=HBF.out.pop;have hx:=HBF.out.sub x (by simp);have hxr:=HBF.out.rng x hx;have hlen0:=HBF.out.len;have keyx:=key3 (a:=x) hxr.1 (by omega);obtain ⟨A2,c2,hlk,hsl⟩:=HLK.out false x hxr.1 (by omega);have hlkr:=hlk wr HBL.out;have hys:=aF (mE pairs false x);have HMEM:=aF (fun y=> @zS pairs x y);have hle2:=hsl.le;have hbig2:=hsl.big;have HSL:=aF hsl;have HBF2:=aF hbf;have HXM:=aF hx;have hcut:=vM (P:=Tryz.prog) 34 3 (some ⟨g,p,none⟩) (qs.length+1) c 1 1 Tryz.underlying34 Tryz.sizeOf3 (by omega);simp only [cJ,bK,cF] at hq2 hle hgk hc1 ⊢;have HQ2:Hid (Qu wr (w.heap.size+1) 3 (.slice (cutA (some ⟨g,p,none⟩) c 1 1) (qs.length+1 - 1) (c - 1)) (qs.map (Value.int .i64))):=aF hq2;obtain ⟨v2,hv2⟩:∃v2,Value.slice (cutA (some ⟨g,p,none⟩) c 1 1) (qs.length+1 - 1) (c - 1)=v2:=⟨_,rfl⟩;rw [hv2] at HQ2 hcut
     have hidx0:∀(W:World) (A0:Option Addr),A0=some ⟨g,p,none⟩->(Instr.indexAt 34 (.slice A0 (qs.length+1) c) (.int .i64 0)).run Tryz.prog W = .ok (.pointer (some ⟨g,p,none⟩)) W:=fun W A0 h=>by
      subst h;go_simp
     obtain ⟨AA,hAA⟩:∃AA,some (⟨g,p,none⟩:Addr)=AA:=⟨_,rfl⟩;have hidx:=fun W=>hidx0 W AA hAA.symm
     rw [hAA] at hcut ⊢;have hcut1:∀W,(Instr.slice 34 (.slice AA (qs.length+1) c) (some (.int .i64 1)) none none).run Tryz.prog W = .ok v2 W:=fun W=>hcut W
     clear hAA hidx0 hcut;have z1:wr.cell? ⟨r,1,none⟩=some (.map (some (M false))):=(HBL.out.cell (p:=⟨r,1,none⟩) (cD _ _ x1)).trans x1;clear hbf hx hxr hlk hsl hq2 HBF hv2;generalize relL pairs false x=ys at *;go_wp2_with fail
     go_loopg [8,42] ys.length (fun gj v i wr2=>∃(sl2 qs2:List Int) (k:Nat),gj=ys.length - k/\k<=ys.length/\i = .int .i64 k/\2 * (n - sl2.length)+qs2.length<=2 * (n - sl.length)+qs.length/\Hid (Bfs pairs n a b sl2 qs2 (fun u=>u=x))/\Hid (x∈sl2)/\Hid (Qu wr2 (w.heap.size+1) 3 v (qs2.map (Value.int .i64)))/\Hid (OwnB Tryz.prog 3 4 wr2 w.heap.size sl2.length (i64F (inF sl2)))/\Hid (Below w.heap.size w wr2)/\w.heap.size+1<=wr2.heap.size/\Hid (∀j y,j<k->ys[j]?=some y->y∈sl2))
     case atStart=>exact ⟨sl,qs,0,by omega,by omega,rfl,aY _,HBF2,HXM,HQ2,HOWN,HBL,hsz,aF (fun j y hj=>absurd hj (by omega))⟩
     case round=>
      clear HBF2 HXM HQ2 HOWN HBL hcut1 hlkr z1 y0 hidx;obtain ⟨sl2,qs2,k,hgj,hk,rfl,hms,HBF,HXM,HQU,HOWN,HBL,hsz2,HDN⟩:=hrel;by_cases hlt:k<ys.length
      ·have hb2:=HBL.out;obtain ⟨g2,o2,rfl,hb2',hy⟩:=(HSL.out.keep RInt.keeps hb2).sl.at_ hlt;have HXY:=aF ((HMEM.out ys[k]).1 (bM hlt))
       have HDN2:Hid (∀sl3:List Int,(∀u∈sl2,u∈sl3)->ys[k]∈sl3->∀j y,j<k+1->ys[j]?=some y->y∈sl3):=aF (fun sl3 h1 h2 j y hj hyj=>by
        rcases Nat.lt_or_ge j k with hjk | hjk
        ·exact h1 y (HDN.out j y hjk hyj)
        ·have:j=k:=by omega
         rw [this,bD hlt] at hyj;injection hyj with hyj
         rw [<- hyj]
         exact h2)
       obtain ⟨y,hyy⟩:∃y,ys[k]=y:=⟨_,rfl⟩;rw [hyy] at hy HXY HDN2;have y0:wr.cell? ⟨g2,o2+k,none⟩=some (.int .i64 y):=(by simpa [RInt] using hy);have hyr:=hr _ HXY.out;simp only at hyr;have keyy:=key3 (a:=y) hyr.2.2.1 (by omega);have hown:=HOWN.out;have hlen2:=HBF.out.len;clear hy hyy hyr HDN;by_cases hyb:y=b
       ·have HF:Hid (q=true):=aF (HQ.out.2 (hyb ▸ Rch.step (HBF.out.rch x HXM.out) HXY.out));subst hyb;clear HQU HBF HOWN
        go_wp2_with (first
         | (at_mapUpdate;refine eK _ rfl _ _ _ 74 rfl 3 4 law3 Tryz.underlying74 Tryz.underlying4 _ _ _ rfl hown (by unfold maxLen;omega) _ _ _ rfl rfl keyy trivial _ (iA sl2 y) (jC sl2 y) ?_;intro w3 hown3 hg3)
         | (at_lookup;refine dD _ rfl _ _ 74 rfl 3 4 law3 Tryz.underlying74 Tryz.underlying4 (gC _) _ _ _ rfl hown3 _ _ rfl keyy ?_;rw [iA]))
        rw [Exit.noGoto_ret];go_ret;exact ⟨by rw [HF.out];rfl,HBL.out.trans (eH hg3 (aY _) (by omega) |>.mono (aY _))⟩
       ·have e3:(y == b)=false:=by simp [hyb]
        have HYB:=aF hyb;clear hyb;by_cases hm:y∈sl2
        ·have HM2:=aF hm;have HFB:Hid (i64F (inF sl2) (.int .i64 y)=true):=aF (by simp [i64F,inF,hm]);clear hm;go_wp2_with (at_lookup;refine dD _ rfl _ _ 74 rfl 3 4 law3 Tryz.underlying74 Tryz.underlying4 (gC _) _ _ _ rfl hown _ _ rfl keyy ?_;rw [HFB.out])
         go_roundg (ys.length - (k+1))
         case measure=>omega
         case rel=>exact ⟨sl2,qs2,k+1,rfl,by omega,by go_num,hms,HBF,HXM,HQU,HOWN,HBL,hsz2,aF (HDN2.out sl2 (fun u h=>h) HM2.out)⟩
        ·have HM2:=aF hm;have HFB:Hid (i64F (inF sl2) (.int .i64 y)=false):=aF (by simp [i64F,inF,hm]);have HBF3:=aF (HBF.out.push HXM.out hr HXY.out hm HYB.out);have hlen3:=HBF3.out.len;simp only [bK] at hlen3;clear hm
         go_wp2_with (first
          | (at_lookup;refine dD _ rfl _ _ 74 rfl 3 4 law3 Tryz.underlying74 Tryz.underlying4 (gC _) _ _ _ rfl hown _ _ rfl keyy ?_;rw [HFB.out])
          | (at_mapUpdate;refine eK _ rfl _ _ _ 74 rfl 3 4 law3 Tryz.underlying74 Tryz.underlying4 _ _ _ rfl hown (by unfold maxLen;omega) _ _ _ rfl rfl keyy trivial _ (iA sl2 y) (jC sl2 y) ?_;intro w3 hown3 hg3)
          | (at_builtin;refine kT _ rfl _ _ 34 rfl (w.heap.size+1) 3 i0 (.int .i64 0) Tryz.underlying34 hi hz0 hz1 (by omega) rfl _ _ rfl ((HQU.out.block (fun k hk=>hg3.block k (HQU.out.lt k hk).2 (by have:=(HQU.out.lt k hk).1;simp;omega))).below ((aX _ _).alloc (aY _) _)) ⟨_,0,none⟩ 1 (.int .i64 y) rfl (dZ w3 _ _ _ rfl 0 _ rfl) rfl (by rw [cF];omega) (by have:=hg3.size;simp;omega) ?_;intro v4 w4 hq4 hg4))
         have hs3:=hg3.size;have hs4:=hg4.size;simp only [bI] at hs4;have hrow:∀j,u8.ownBlock=some j->w.heap.size+1<=j:=fun j hj=>(HQU.out.lt j hj).1
         have hB3:Below w.heap.size w (w3.alloc (.cells #[.int .i64 y] 3)):=(HBL.out.trans (eH hg3 (aY _) (by omega))).alloc (by omega) _;have HB4:=aF (hB3.grown hg4 (by simp;omega) (fun j hj=>by have:=hrow j hj;omega));have HO4:=aF ((hown3.alloc _).block (hg4.block _ (by simp;omega) (fun e=>by have:=hrow _ e.symm;omega)));go_roundg (ys.length - (k+1))
         case measure=>omega
         case rel=>exact ⟨y :: sl2,qs2 ++ [y],k+1,rfl,by omega,by go_num,by simp only [bK,bB,bO];omega,HBF3,aF (List.mem_cons_of_mem _ HXM.out),aF (by rw [bS];exact hq4),HO4,HB4,by omega,aF (HDN2.out (y :: sl2) (fun u h=>List.mem_cons_of_mem _ h) (by simp))⟩
      ·have HCL:=aF (HBF.out.close (fun y hy=>by
        obtain ⟨j,hj,he⟩:=List.mem_iff_getElem.1 ((HMEM.out y).2 hy)
        exact HDN.out j y (by omega) (by rw [bD hj,he])))
       clear HBF HDN;go_wp2_with fail
       go_roundg (2 * (n - sl2.length)+qs2.length)
       case measure=>omega
       case rel=>exact ⟨sl2,qs2,rfl,by omega,HCL,HQU,HOWN,HBL,hsz2⟩
end
section
open Go Go.RowKit
structure Ln where
 reg:Int
 pt:Int
 mu:Bool
 place:Plc
 deriving DecidableEq
structure Fct where
 loans:List Ln
 edges:List (Int × Int)
 killed:List (Int × Int)
 inval:List (Int × Int)
 live:List (Int × Int)
 deriving DecidableEq
def RLn:Rd Ln:=fun w B b o x=>w.cell? ⟨b,o,none⟩=some (.int .i64 x.reg)/\w.cell? ⟨b,o+1,none⟩=some (.int .i64 x.pt)/\w.cell? ⟨b,o+2,none⟩=some (.bool x.mu)/\RPl w B b (o+3) x.place
theorem RLn.keeps:RLn.Keeps:=fun w w' B B' b o _x hB hlt hb ⟨h0,h1,h2,h3⟩=>
 ⟨(hb.cell (p:=⟨b,o,none⟩) hlt).trans h0,(hb.cell (p:=⟨b,o+1,none⟩) hlt).trans h1,(hb.cell (p:=⟨b,o+2,none⟩) hlt).trans h2,RPl.keeps w w' B B' b _ _ hB hlt hb h3⟩
structure FH where
 A0:Option Addr
 c0:Nat
 A1:Option Addr
 c1:Nat
 A2:Option Addr
 c2:Nat
 A3:Option Addr
 c3:Nat
 A4:Option Addr
 c4:Nat
structure FcAt (w:World) (f:Fct) (h:FH):Prop where
 ln:Slc 5 RLn w h.A0 h.c0 f.loans
 ed:Slc 2 RPr w h.A1 h.c1 f.edges
 ki:Slc 2 RPr w h.A2 h.c2 f.killed
 iv:Slc 2 RPr w h.A3 h.c3 f.inval
 li:Slc 2 RPr w h.A4 h.c4 f.live
theorem FcAt.keep {w w':World} {f:Fct} {h:FH} (H:FcAt w f h) (hb:Below w.heap.size w w'):FcAt w' f h:=
 ⟨H.ln.keep RLn.keeps hb,H.ed.keep RPr.keeps hb,H.ki.keep RPr.keeps hb,H.iv.keep RPr.keeps hb,H.li.keep RPr.keeps hb⟩
def fcBig (f:Fct):Prop:=16777216<f.loans.length\/16777216<f.edges.length\/16777216<f.killed.length\/16777216<f.inval.length\/16777216<f.live.length
instance (f:Fct):Decidable (fcBig f):=by unfold fcBig;exact inferInstance
theorem dS {X:World} {n:Nat} {l:List Value} {T:TypeId} (h:X.heap[n]?=some (.cells l.toArray T (0,0))):∀i v,l[i]?=some v->X.cell? ⟨n,i,none⟩=some v:=fun i v hi=>by
 simp [World.cell?,h,hi]
theorem xAQ {X:World} {n:Nat} {v u:Value} {T:TypeId} (h:X.heap[n]?=some (.cells #[v] T (0,0))):(X.setCell ⟨n,0,none⟩ u).heap[n]?=some (.cells #[u] T (0,0)):=by
 simp [World.setCell,Array.getElem?_modify,h]
end
end Go.Proofs.YtcfchohkmkilpaaGreatDoor
