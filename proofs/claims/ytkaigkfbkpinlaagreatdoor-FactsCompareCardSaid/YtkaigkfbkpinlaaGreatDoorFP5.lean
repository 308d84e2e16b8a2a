/-
  Parts of the proof: H5 C1 BkO Queue V17 V20 V21 F2 V22.
-/
import Derived.Test.YtkaigkfbkpinlaaGreatDoorFP0
import Derived.Test.YtkaigkfbkpinlaaGreatDoorFP4
import Derived.Test.YtkaigkfbkpinlaaGreatDoorFP3
import Derived.Test.YtkaigkfbkpinlaaGreatDoorFP1
import Derived.Test.YtkaigkfbkpinlaaGreatDoorFP2
import Derived.Deep.LoopGhost
namespace Go.Proofs.YtkaigkfbkpinlaaGreatDoor
set_option maxRecDepth 100000
set_option maxHeartbeats 16000000
section
open Go Go.RowKit
def clP (pairs:List (Int × Int)) (n:Int) (l:List Int) (z:Int):Prop:=∃y∈l,0<=y/\y<n/\Rch pairs z y
structure Cl (pairs:List (Int × Int)) (n:Nat) (l o:List Int) (i j:Nat):Prop where
 nd:o.Nodup
 rng:∀z∈o,0<=z/\z<(n:Int)
 snd:∀z∈o,clP pairs n l z
 pre:∀k,k<i->∀y,l[k]?=some y->0<=y->y<(n:Int)->y∈o
 cls:∀k,k<j->∀y,o[k]?=some y->∀z,(z,y)∈pairs->z∈o
theorem Cl.start (pairs:List (Int × Int)) (n:Nat) (l:List Int):Cl pairs n l [] 0 0:=⟨by simp,by simp,by simp,fun k hk=>by omega,fun k hk=>by omega⟩
theorem Cl.pass {pairs:List (Int × Int)} {n:Nat} {l o:List Int} {i:Nat} (h:Cl pairs n l o i 0) {y:Int} (hy:l[i]?=some y) (hp:0<=y->y<(n:Int)->y∈o):Cl pairs n l o (i+1) 0:=
 ⟨h.nd,h.rng,h.snd,fun k hk z hz h0 h1=>by
   by_cases e:k=i
   ·subst e;rw [hy] at hz;injection hz with hz;subst hz;exact hp h0 h1
   ·exact h.pre k (by omega) z hz h0 h1,fun k hk=>by omega⟩
theorem Cl.add {pairs:List (Int × Int)} {n:Nat} {l o:List Int} {i:Nat} (h:Cl pairs n l o i 0) {y:Int} (hy:l[i]?=some y) (h0:0<=y) (h1:y<(n:Int)) (hn:y∉o):Cl pairs n l (o ++ [y]) (i+1) 0:=
 ⟨gU h.nd (fun z hz e=>hn (e ▸ hz)),fun z hz=>(List.mem_append.1 hz).elim (h.rng z) (fun e=>by rw [List.mem_singleton.1 e];exact ⟨h0,h1⟩),
  fun z hz=>(List.mem_append.1 hz).elim (h.snd z) (fun e=>by rw [List.mem_singleton.1 e];exact ⟨y,List.mem_of_getElem? hy,h0,h1,.refl y⟩),
  fun k hk z hz g0 g1=>by
   by_cases e:k=i
   ·subst e;rw [hy] at hz;injection hz with hz;subst hz;simp
   ·simp [h.pre k (by omega) z hz g0 g1],fun k hk=>by omega⟩
structure Cm (pairs:List (Int × Int)) (n:Nat) (l o:List Int) (j:Nat) (y:Int) (ys:List Int) (k:Nat):Prop where
 base:Cl pairs n l o l.length j
 at_:o[j]?=some y
 mem:∀z,z∈ys↔(z,y)∈pairs
 done:∀m,m<k->∀z,ys[m]?=some z->z∈o
theorem Cm.start {pairs:List (Int × Int)} {n:Nat} {l o:List Int} {j:Nat} {y:Int} {ys:List Int} (h:Cl pairs n l o l.length j) (hy:o[j]?=some y) (hm:∀z,z∈ys↔(z,y)∈pairs):Cm pairs n l o j y ys 0:=⟨h,hy,hm,fun m hm=>by omega⟩
theorem Cm.pass {pairs:List (Int × Int)} {n:Nat} {l o:List Int} {j:Nat} {y:Int} {ys:List Int} {k:Nat} (h:Cm pairs n l o j y ys k) {z:Int} (hz:ys[k]?=some z) (hs:z∈o):Cm pairs n l o j y ys (k+1):=
 ⟨h.base,h.at_,h.mem,fun m hm x hx=>by
   by_cases e:m=k
   ·subst e;rw [hz] at hx;injection hx with hx;exact hx ▸ hs
   ·exact h.done m (by omega) x hx⟩
theorem Cm.add {pairs:List (Int × Int)} {n:Nat} {l o:List Int} {j:Nat} {y:Int} {ys:List Int} {k:Nat} (h:Cm pairs n l o j y ys k) (hr:∀p∈pairs,0<=p.1/\p.1<(n:Int)/\0<=p.2/\p.2<(n:Int)) {z:Int} (hz:ys[k]?=some z) (hs:z∉o):Cm pairs n l (o ++ [z]) j y ys (k+1):=by
 have hp:=(h.mem z).1 (List.mem_of_getElem? hz);have hj:j<o.length:=(List.getElem?_eq_some_iff.1 h.at_).1;refine ⟨⟨gU h.base.nd (fun x hx e=>hs (e ▸ hx)),fun x hx=>?_,fun x hx=>?_,fun m hm x hx g0 g1=>List.mem_append_left _ (h.base.pre m hm x hx g0 g1),fun m hm x hx u hu=>?_⟩,by rw [List.getElem?_append_left hj];exact h.at_,h.mem,fun m hm x hx=>?_⟩
 ·rcases List.mem_append.1 hx with hx | hx
  ·exact h.base.rng x hx
  ·rw [List.mem_singleton.1 hx];exact ⟨(hr _ hp).1,(hr _ hp).2.1⟩
 ·rcases List.mem_append.1 hx with hx | hx
  ·exact h.base.snd x hx
  ·rw [List.mem_singleton.1 hx];obtain ⟨u,a,b,c,d⟩:=h.base.snd y (List.mem_of_getElem? h.at_);exact ⟨u,a,b,c,(Rch.one hp).trans d⟩
 ·rw [List.getElem?_append_left (by omega)] at hx;exact List.mem_append_left _ (h.base.cls m hm x hx u hu)
 ·by_cases e:m=k
  ·subst e;rw [hz] at hx;injection hx with hx;simp [hx]
  ·exact List.mem_append_left _ (h.done m (by omega) x hx)
theorem Cm.close {pairs:List (Int × Int)} {n:Nat} {l o:List Int} {j:Nat} {y:Int} {ys:List Int} {k:Nat} (h:Cm pairs n l o j y ys k) (hk:ys.length<=k):Cl pairs n l o l.length (j+1):=
 ⟨h.base.nd,h.base.rng,h.base.snd,h.base.pre,fun m hm x hx u hu=>by
   by_cases e:m=j
   ·subst e;rw [h.at_] at hx;injection hx with hx;subst hx
    obtain ⟨q,hq,e⟩:=List.getElem_of_mem ((h.mem u).2 hu);exact h.done q (by omega) u (by rw [bF hq,e])
   ·exact h.base.cls m (by omega) x hx u hu⟩
theorem Rch.back {pairs:List (Int × Int)} {S:Int->Prop} (hc:∀x y,S y->(x,y)∈pairs->S x) {a b:Int} (h:Rch pairs a b):S b->S a:=by
 induction h with
 | refl=>exact fun h=>h
 | step _ hp ih=>exact fun hs=>ih (hc _ _ hs hp)
theorem Cl.done {pairs:List (Int × Int)} {n:Nat} {l o:List Int} {j:Nat} (h:Cl pairs n l o l.length j) (hj:o.length<=j) (z:Int):z∈o↔clP pairs n l z:=by
 refine ⟨h.snd z,?_⟩;rintro ⟨y,hy,h0,h1,hr⟩;refine hr.back (S:=fun u=>u∈o) (fun x u hu hp=>?_) ?_
 ·obtain ⟨q,hq,e⟩:=List.getElem_of_mem hu;exact h.cls q (by omega) u (by rw [bF hq,e]) x hp
 ·obtain ⟨q,hq,e⟩:=List.getElem_of_mem hy;exact h.pre q hq y (by rw [bF hq,e]) h0 h1
theorem Cl.len {pairs:List (Int × Int)} {n:Nat} {l o:List Int} {i j:Nat} (h:Cl pairs n l o i j):o.length<=n:=dY n o h.nd h.rng
structure Vi (ts:List Ty) (i:Int) (sl sl':List Int):Prop where
 sub:∀x∈sl,x∈sl'
 nd:sl.Nodup->sl'.Nodup
 hd:i∈sl'
 snd:∀x∈sl',x∈sl\/Rt ts i x
 cls:∀x∈sl',x∈sl\/∀t,ts[x.toNat]?=some t->∀k∈prtT t,k∈sl'
theorem Vi.known (ts:List Ty) {i:Int} {sl:List Int} (h:i∈sl):Vi ts i sl sl:=⟨fun _ h=>h,fun h=>h,h,fun _ h=> .inl h,fun _ h=> .inl h⟩
structure Vk (ts:List Ty) (i:Int) (ps:List Int) (k:Nat) (sl sl':List Int):Prop where
 sub:∀x∈sl,x∈sl'
 nd:sl.Nodup->sl'.Nodup
 hd:i∈sl'
 snd:∀x∈sl',x∈sl\/Rt ts i x
 cls:∀x∈sl',x∈sl\/x=i\/∀t,ts[x.toNat]?=some t->∀k∈prtT t,k∈sl'
 done:∀m,m<k->∀y,ps[m]?=some y->y∈sl'
theorem Vk.start {ts:List Ty} {i:Int} {ps sl:List Int} (h:i∉sl):Vk ts i ps 0 sl (i :: sl):=
 ⟨fun x hx=>by simp [hx],fun hn=>List.nodup_cons.2 ⟨h,hn⟩,by simp,fun x hx=>(List.mem_cons.1 hx).elim (fun e=>by subst e;exact .inr (.refl _)) .inl,fun x hx=>(List.mem_cons.1 hx).elim (fun e=> .inr (.inl e)) .inl,fun m hm=>by omega⟩
theorem Vk.step {ts:List Ty} {i:Int} {t:Ty} {k:Nat} {y:Int} {sl sl' sl2:List Int} (h:Vk ts i (prtT t) k sl sl') (h0:0<=i) (ht:ts[i.toNat]?=some t) (hy:(prtT t)[k]?=some y) (v:Vi ts y sl' sl2):Vk ts i (prtT t) (k+1) sl sl2:=
 ⟨fun x hx=>v.sub x (h.sub x hx),fun hn=>v.nd (h.nd hn),v.sub i h.hd,
  fun x hx=>(v.snd x hx).elim (h.snd x) (fun hr=> .inr (.step h0 ht (List.mem_of_getElem? hy) hr)),
  fun x hx=>(v.cls x hx).elim (fun hx'=>(h.cls x hx').imp id (fun g=>g.imp id (fun f u hu z hz=>v.sub z (f u hu z hz)))) (fun f=> .inr (.inr f)),
  fun m hm z hz=>by
   by_cases e:m=k
   ·subst e;rw [hy] at hz;injection hz with hz;exact hz ▸ v.hd
   ·exact v.sub z (h.done m (by omega) z hz)⟩
theorem Vk.close {ts:List Ty} {i:Int} {t:Ty} {k:Nat} {sl sl':List Int} (h:Vk ts i (prtT t) k sl sl') (ht:ts[i.toNat]?=some t) (hk:(prtT t).length<=k):Vi ts i sl sl':=
 ⟨h.sub,h.nd,h.hd,h.snd,fun x hx=>(h.cls x hx).imp id (fun g=>g.elim (fun e u hu z hz=>by
   subst e;rw [ht] at hu;injection hu with hu;subst hu
   obtain ⟨q,hq,e⟩:=List.getElem_of_mem hz
   exact h.done q (by omega) z (by rw [bF hq,e])) id)⟩
theorem Vi.reach {ts:List Ty} {i:Int} {sl:List Int} (h:Vi ts i [] sl) (j:Int):j∈sl↔Rt ts i j:=
 ⟨fun hj=>(h.snd j hj).elim (fun g=>by cases g) id,fun hr=>hr.closed (S:=fun x=>x∈sl) (fun x t k hx _ ht hk=>(h.cls x hx).elim (fun g=>by cases g) (fun f=>f t ht k hk)) h.hd⟩
def RlP (b:Bdy) (r p:Int):Prop:=∃x:Int,Lv b.blocks x p/\∃l,b.locals[x.toNat]?=some l/\∃s,Men b.types s l.type/\0<=s/\s<(b.regions.length:Int)/\0<=r/\r<(b.regions.length:Int)/\Rch b.outl r s
def lvR (b:Bdy) (z:Int × Int):Prop:=RlP b z.1 z.2
theorem RlP.lt {b:Bdy} {r p:Int} (h:RlP b r p):0<=r/\r<(b.regions.length:Int)/\0<=p/\p<(cntB b.blocks:Int):=by
 obtain ⟨x,h1,_,_,_,_,_,_,a,c,_⟩:=h;exact ⟨a,c,h1.lt.1,h1.lt.2⟩
def ovl (p q:Plc):Bool:=isPre p q || isPre q p
theorem xEJ (p q:Plc):ovl p q=(decide (p.loc=q.loc) && decide (p.proj.take (min p.proj.length q.proj.length)=q.proj.take (min p.proj.length q.proj.length))):=by
 unfold ovl isPre;rw [bS];simp only [Bool.or_eq_true,bR,decide_eq_true_eq];rcases Nat.le_total p.proj.length q.proj.length with h | h
 ·rw [Nat.min_eq_left h,cB];constructor
  ·rintro (⟨a,_,b⟩ | ⟨a,c,b⟩)
   ·exact ⟨a,b⟩
   ·have hl:p.proj.length=q.proj.length:=(by omega);refine ⟨a.symm,?_⟩;rw [<- hl,cB] at b;rw [<- b,cB]
  ·rintro ⟨a,b⟩;exact .inl ⟨a,h,b⟩
 ·rw [Nat.min_eq_right h,cB];constructor
  ·rintro (⟨a,c,b⟩ | ⟨a,_,b⟩)
   ·have hl:p.proj.length=q.proj.length:=(by omega);refine ⟨a,?_⟩;rw [hl,cB] at b;rw [<- hl,cB,b]
   ·exact ⟨a.symm,b.symm⟩
  ·rintro ⟨a,b⟩;exact .inr ⟨a.symm,h,b.symm⟩
structure Acs where
 place:Plc
 wr:Bool
 deep:Bool
 deriving DecidableEq
def rdL (l:List Opd):List Acs:=(l.filter (fun o=>decide (o.kind=0\/o.kind=1))).map (fun o=>⟨o.place,decide (o.kind=1),true⟩)
def ifA (c:Prop) [Decidable c] (x:Acs):List Acs:=if c then [x] else []
def acS (s:Stm):List Acs:=if s.kind=1 then [⟨⟨s.loc,[]⟩,true,false⟩] else if s.kind=0 then rdL s.rv.args ++ ifA (s.rv.kind=1) ⟨s.rv.place,s.rv.mu,true⟩ ++ [⟨s.place,true,false⟩] else []
def acT (t:Trm):List Acs:=rdL t.args ++ ifA (t.kind=3\/t.kind=4) ⟨t.place,true,false⟩
def acB (x:Blk) (k:Nat):List Acs:=
 match x.stmts[k]? with
 | some s=>acS s
 | none=>acT x.term
def cfl (a:Acs) (l:Ln):Bool:=(a.wr || l.mu) && ovl a.place l.place && (a.deep || !hasD l.place.proj a.place.proj.length)
def invB (x:Blk) (k:Nat) (l:Ln):Bool:=(acB x k).any (fun a=>cfl a l)
def kilQ (p:Plc) (l:Ln):Bool:=isPre p l.place && hasD l.place.proj p.proj.length
def kilB (x:Blk) (k:Nat) (l:Ln):Bool:=
 match x.stmts[k]? with
 | some s=>if s.kind=0 then kilQ s.place l else false
 | none=>if x.term.kind=3 then kilQ x.term.place l else false
def invP (bs:List Blk) (p:Int) (l:Ln):Bool:=
 match locB bs p with
 | none=>false
 | some (i,k)=>match bs[i]? with
   | none=>false
   | some x=>invB x k l
def kilP (bs:List Blk) (p:Int) (l:Ln):Bool:=
 match locB bs p with
 | none=>false
 | some (i,k)=>match bs[i]? with
   | none=>false
   | some x=>kilB x k l
theorem xCX {bs:List Blk} {p:Int} {i k:Nat} {x:Blk} {l:Ln} (h:locB bs p=some (i,k)) (hx:bs[i]?=some x):kilP bs p l=kilB x k l:=by unfold kilP;rw [h];simp only [hx]
theorem wD {bs:List Blk} {p:Int} {l:Ln} (h:locB bs p=none):kilP bs p l=false:=by unfold kilP;rw [h]
def lnS (p:Int) (s:Stm):List Ln:=if s.kind=0/\s.rv.kind=1 then [⟨s.rv.reg,p,s.rv.mu,s.rv.place⟩] else []
def lnB (x:Blk) (k:Nat) (p:Int):List Ln:=
 match x.stmts[k]? with
 | some s=>lnS p s
 | none=>[]
def lnP (bs:List Blk) (p:Int):List Ln:=
 match locB bs p with
 | none=>[]
 | some (i,k)=>match bs[i]? with
   | none=>[]
   | some x=>lnB x k p
theorem xET {bs:List Blk} {p:Int} {i k:Nat} {x:Blk} (h:locB bs p=some (i,k)) (hx:bs[i]?=some x):lnP bs p=lnB x k p:=by unfold lnP;rw [h];simp only [hx]
def lnU (bs:List Blk) (p:Nat):List Ln:=(List.range p).flatMap (fun q:Nat=>lnP bs (q:Int))
theorem nM (bs:List Blk) (p:Nat):lnU bs (p+1)=lnU bs p ++ lnP bs p:=by simp [lnU,List.range_succ]
def pfx (n:Nat) (f:Nat->Nat->Bool) (t:Nat):List (Int × Int):=((List.range t).filter (fun u=>f (u / n) (u % n))).map (fun u=>(((u / n:Nat):Int),((u % n:Nat):Int)))
theorem xBS {n i p:Nat} (hp:p<n):(i * n+p) / n=i/\(i * n+p) % n=p:=by
 constructor
 ·rw [Nat.mul_comm,Nat.mul_add_div (by omega),Nat.div_eq_of_lt hp];omega
 ·rw [Nat.mul_comm,Nat.mul_add_mod,Nat.mod_eq_of_lt hp]
theorem rH {n:Nat} {f:Nat->Nat->Bool} {i p:Nat} (hp:p<n) (h:f i p=true):pfx n f (i * n+p+1)=pfx n f (i * n+p) ++ [((i:Int),(p:Int))]:=by
 obtain ⟨h1,h2⟩:=xBS (i:=i) hp;have e:[i * n+p].filter (fun u=>f (u / n) (u % n))=[i * n+p]:=by simp [h1,h2,h]
 unfold pfx;rw [List.range_succ,List.filter_append,bV,e];simp only [List.map_cons,List.map_nil,h1,h2]
theorem rI {n:Nat} {f:Nat->Nat->Bool} {i p:Nat} (hp:p<n) (h:f i p=false):pfx n f (i * n+p+1)=pfx n f (i * n+p):=by
 obtain ⟨h1,h2⟩:=xBS (i:=i) hp;simp [pfx,List.range_succ,h1,h2,h]
theorem uX {n:Nat} {f:Nat->Nat->Bool} (t:Nat):(pfx n f t).length<=t:=by
 unfold pfx;rw [cH];exact cA (List.length_filter_le _ _) (by simp)
def kilF (bs:List Blk) (ls:List Ln) (i p:Nat):Bool:=
 match ls[i]? with
 | none=>false
 | some l=>kilP bs p l
def invF (bs:List Blk) (ls:List Ln) (i p:Nat):Bool:=
 match ls[i]? with
 | none=>false
 | some l=>invP bs p l
structure FcB (b:Bdy) (f:Fct):Prop where
 loans:f.loans=lnU b.blocks (cntB b.blocks)
 edges:Srt2 f.edges (fun z=>folP b.blocks z.1 z.2)
 killed:f.killed=pfx (cntB b.blocks) (kilF b.blocks f.loans) (f.loans.length * cntB b.blocks)
 inval:f.inval=pfx (cntB b.blocks) (invF b.blocks f.loans) (f.loans.length * cntB b.blocks)
 live:Srt2 f.live (lvR b)
theorem FcB.uniq {b:Bdy} {f g:Fct} (h:FcB b f) (k:FcB b g):f=g:=by
 have h1:=h.loans.trans k.loans.symm;have h2:=h.edges.uniq k.edges;have h3:=h.live.uniq k.live;have h4:=h.killed;have h5:=h.inval;rw [h1,<- k.killed] at h4;rw [h1,<- k.inval] at h5;obtain ⟨a,b,c,d,e⟩:=f;obtain ⟨a',b',c',d',e'⟩:=g;simp only at h1 h2 h3 h4 h5;subst h1 h2 h3 h4 h5;rfl
theorem eX {w:World} {b o:Nat} {x:Blk} (h:RBk w w.heap.size b o x):∃A1 c1 A2 c2 A3 c3 A4 c4,w.cell? ⟨b,o,none⟩=some (.slice A1 x.stmts.length c1)/\w.cell? ⟨b,o+1,none⟩=some (.int .i64 x.term.kind)/\w.cell? ⟨b,o+2,none⟩=some (.slice A2 x.term.targets.length c2)/\w.cell? ⟨b,o+3,none⟩=some (.slice A3 x.term.args.length c3)/\w.cell? ⟨b,o+4,none⟩=some (.int .i64 x.term.place.loc)/\w.cell? ⟨b,o+5,none⟩=some (.slice A4 x.term.place.proj.length c4)/\w.cell? ⟨b,o+6,none⟩=some (.string x.term.name)/\
 Slc 11 RSt w A1 c1 x.stmts/\Slc 1 RInt w A2 c2 x.term.targets/\Slc 4 ROp w A3 c3 x.term.args/\Slc 2 RPj w A4 c4 x.term.place.proj:=by
 obtain ⟨⟨A1,c1,h1,h2,h3,h4⟩,t0,⟨A2,c2,t1,t2,t3,t4⟩,⟨A3,c3,s1,s2,s3,s4⟩,⟨p0,A4,c4,p1,p2,p3,p4⟩,t5⟩:=h;exact ⟨A1,c1,A2,c2,A3,c3,A4,c4,h1,t0,t1,s1,p0,p1,t5,⟨h4,h2,h3⟩,⟨t4,t2,t3⟩,⟨s4,s2,s3⟩,⟨p4,p2,p3⟩⟩
theorem iM {w:World} {b o:Nat} {s:Stm} (h:RSt w w.heap.size b o s):∃A0 c0 A c B d,w.cell? ⟨b,o,none⟩=some (.int .i64 s.kind)/\w.cell? ⟨b,o+1,none⟩=some (.int .i64 s.place.loc)/\w.cell? ⟨b,o+2,none⟩=some (.slice A0 s.place.proj.length c0)/\w.cell? ⟨b,o+3,none⟩=some (.int .i64 s.rv.kind)/\w.cell? ⟨b,o+4,none⟩=some (.int .i64 s.rv.op)/\w.cell? ⟨b,o+5,none⟩=some (.int .i64 s.rv.reg)/\w.cell? ⟨b,o+6,none⟩=some (.bool s.rv.mu)/\w.cell? ⟨b,o+7,none⟩=some (.int .i64 s.rv.place.loc)/\w.cell? ⟨b,o+8,none⟩=some (.slice A s.rv.place.proj.length c)/\w.cell? ⟨b,o+9,none⟩=some (.slice B s.rv.args.length d)/\w.cell? ⟨b,o+10,none⟩=some (.int .i64 s.loc)/\
 Slc 2 RPj w A0 c0 s.place.proj/\Slc 2 RPj w A c s.rv.place.proj/\Slc 4 ROp w B d s.rv.args:=by
 obtain ⟨k0,⟨p0,A0,c0,p1,p2,p3,p4⟩,⟨v0,v1,v2,v3,⟨q0,A,c,q1,q2,q3,q4⟩,⟨B,d,a1,a2,a3,a4⟩⟩,l0⟩:=h;exact ⟨A0,c0,A,c,B,d,k0,p0,p1,v0,v1,v2,v3,q0,q1,a1,l0,⟨p4,p2,p3⟩,⟨q4,q2,q3⟩,⟨a4,a2,a3⟩⟩
def bkL (x:Blk) (A1:Option Addr) (c1:Nat) (A2:Option Addr) (c2:Nat) (A3:Option Addr) (c3:Nat) (A4:Option Addr) (c4:Nat):List Value:=[.slice A1 x.stmts.length c1,.int .i64 x.term.kind,.slice A2 x.term.targets.length c2,.slice A3 x.term.args.length c3,.int .i64 x.term.place.loc,.slice A4 x.term.place.proj.length c4,.string x.term.name]
end
section
open Go Go.RowKit
structure Qat (w:World) (base:Nat) (e:TypeId) (g p n cap:Nat) (cur:Array Value) (xs:List Value):Prop where
 low:base<=g
 heap:w.heap[g]?=some (.cells cur e (0,0))
 len:xs.length=n
 le:n<=cap
 big:cap<=9223372036854775807
 fit:p+cap<=cur.size
 row:(cur.toList.drop p).take n=xs
def Qu (w:World) (base:Nat) (e:TypeId) (v:Value) (xs:List Value):Prop:=
 (v = .slice none 0 0/\xs=[])\/∃g p n cap cur,v = .slice (some ⟨g,p,none⟩) n cap/\Qat w base e g p n cap cur xs
theorem Qat.cell {w:World} {base g p n cap:Nat} {e:TypeId} {cur:Array Value} {xs:List Value} (h:Qat w base e g p n cap cur xs) (j:Nat) (u:Value) (hj:xs[j]?=some u):w.cell? ⟨g,p+j,none⟩=some u:=by
 have hlt:j<n:=by rw [<- h.len];exact (List.getElem?_eq_some_iff.1 hj).1
 rw [<- h.row,List.getElem?_take,bD hlt,List.getElem?_drop] at hj;simp only [World.cell?,h.heap];simpa using hj
theorem Qu.lt {w:World} {base:Nat} {e:TypeId} {v:Value} {xs:List Value} (h:Qu w base e v xs):∀k,v.ownBlock=some k->base<=k/\k<w.heap.size:=by
 rcases h with ⟨rfl,_⟩ | ⟨g,p,n,cap,cur,rfl,hq⟩
 ·intro k hk;cases hk
 ·intro k hk;injection hk with hk
  subst hk;exact ⟨hq.low,(Array.getElem?_eq_some_iff.1 hq.heap).1⟩
theorem Qu.block {w w':World} {base:Nat} {e:TypeId} {v:Value} {xs:List Value} (h:Qu w base e v xs) (hb:∀k,v.ownBlock=some k->w'.heap[k]?=w.heap[k]?):Qu w' base e v xs:=by
 rcases h with ⟨rfl,hx⟩ | ⟨g,p,n,cap,cur,rfl,hq⟩
 ·exact .inl ⟨rfl,hx⟩
 ·exact .inr ⟨g,p,n,cap,cur,rfl,hq.low,(hb g rfl).trans hq.heap,hq.len,hq.le,hq.big,hq.fit,hq.row⟩
theorem Qu.below {w w':World} {base:Nat} {e:TypeId} {v:Value} {xs:List Value} (h:Qu w base e v xs) (hb:Below w.heap.size w w'):Qu w' base e v xs:=
 h.block (fun k hk=>hb.block k (h.lt k hk).2)
theorem Qu.slice {w:World} {base:Nat} {e:TypeId} {v:Value} {xs:List Value} (h:Qu w base e v xs):∃A c,v = .slice A xs.length c/\xs.length<=c/\c<=9223372036854775807:=by
 rcases h with ⟨rfl,rfl⟩ | ⟨g,p,n,cap,cur,rfl,hq⟩
 ·exact ⟨none,0,rfl,by simp,by omega⟩
 ·exact ⟨_,cap,by rw [hq.len],by rw [hq.len];exact hq.le,hq.big⟩
theorem Qu.one (W:World) (base:Nat) (e:TypeId) (x:Value) (k:Nat) (hk:k=W.heap.size) (hb:base<=k):Qu (W.alloc (.cells #[x] e)) base e (.slice (some ⟨k,0,none⟩) 1 1) [x]:=by
 subst hk;exact .inr ⟨_,0,1,1,#[x],rfl,hb,Array.getElem?_push_size,rfl,by omega,by omega,by simp,by simp⟩
theorem Qu.tail {w:World} {base:Nat} {e:TypeId} {x:Value} {r:List Value} {A:Option Addr} {n c:Nat} (h:Qu w base e (.slice A n c) (x :: r)):
 ∃g p,A=some ⟨g,p,none⟩/\n=r.length+1/\n<=c/\c<=9223372036854775807/\w.cell? ⟨g,p,none⟩=some x/\Qu w base e (.slice (if c=1 then A else A.map (·.add (1 * 1))) (n - 1) (c - 1)) r:=by
 rcases h with ⟨_,h⟩ | ⟨g,p,n',cap,cur,hv,hq⟩
 ·cases h
 ·obtain ⟨rfl,rfl,rfl⟩:A=some ⟨g,p,none⟩/\n=n'/\c=cap:=by simpa using hv
  have hl:=hq.len;simp only [bN] at hl;refine ⟨g,p,rfl,by omega,hq.le,hq.big,by simpa using hq.cell 0 x rfl,?_⟩;have hle:=hq.le;have hbig:=hq.big;have hfit:=hq.fit;by_cases h1:c=1
  ·rw [bD h1];refine .inr ⟨g,p,n - 1,c - 1,cur,rfl,hq.low,hq.heap,by omega,by omega,by omega,by omega,?_⟩;have hr0:r=[]:=bW (by omega);have:n - 1=0:=by omega
   rw [this,List.take_zero,hr0]
  ·rw [bB h1];refine .inr ⟨g,p+1,n - 1,c - 1,cur,by simp [Addr.add],hq.low,hq.heap,by omega,by omega,by omega,by omega,?_⟩;have hr:=hq.row;rw [<- List.drop_drop];cases hd:cur.toList.drop p with
   | nil=>rw [hd] at hr;simp at hr
   | cons y t=>
     rw [hd,show n=(n - 1)+1 by omega,List.take_succ_cons] at hr;have hr2:=(List.cons.inj hr).2;simpa using hr2
section
variable {P:Program}
theorem gS (w:World) (t ty e:TypeId) (i:TypeInfo) (ht:P.underlying t=some (.slice e)) (hi:P.info? e=some i)
 (g p sLen sCap:Nat) (cur:Array Value) (hg:w.heap[g]?=some (.cells cur e (0,0)))
 (a:Addr) (m c:Nat) (news:List Value) (hl:news.length=m * i.size) (hnews:∀j u,news[j]?=some u->w.cell? (a.add j)=some u) (h1:∀u∈news,u.oneCell'=true)
 (hroom:sLen+m<=sCap) (hfit:p+sLen * i.size+news.length<=cur.size):
 (Builtin.append_ #[t,t] ty #[.slice (some ⟨g,p,none⟩) sLen sCap,.slice (some a) m c]).run P w =
   .ok (.slice (some ⟨g,p,none⟩) (sLen+m) sCap) (w.setRow g (cur.toList.take (p+sLen * i.size) ++ news ++ cur.toList.drop (p+sLen * i.size+news.length)).toArray):=by
 have hf:=run_firstCells_some (P:=P) w i.size m a m c news hl hnews;have hst:=run_storeCells_at P g (p+sLen * i.size) e news 0 cur w hg (by simpa using hfit) h1;simp only [Nat.add_zero] at hst;simp [Builtin.append_,run_underlying ht,sizeOf,typeInfo,hi,Builtin.lenOf,hroom,hf,Addr.add_lit,hst]
theorem Qu.append {w:World} {base:Nat} {t ty e:TypeId} {i:TypeInfo} {z:Value} (ht:P.underlying t=some (.slice e)) (hi:P.info? e=some i) (hz:i.zero=some z) (hsize:i.size=1) (hby:i.bytes<=16) (hzs:z.cells.size=1)
 {v:Value} {xs:List Value} (h:Qu w base e v xs) (a:Addr) (c:Nat) (x:Value) (hx:w.cell? a=some x) (h1:x.oneCell'=true) (hlen:xs.length+1<=1099511627776) (hb:base<=w.heap.size):
 ∃v' w',(Builtin.append_ #[t,t] ty #[v,.slice (some a) 1 c]).run P w = .ok v' w'/\Qu w' base e v' (xs ++ [x])/\w.grownBy w' v.ownBlock:=by
 have hnews:∀j u,[x][j]?=some u->w.cell? (a.add j)=some u:=fun j u hj=>by
  cases j with
  | zero=>
    simp at hj;subst hj;simpa [Addr.add] using hx
  | succ j=>simp at hj
 have grown:∀(old:Nat) (row:Option Nat),Qu (w.drew.alloc (.cells (xs.toArray ++ [x].toArray ++ Builtin.zeroCells z.cells (grownCap w (xs.length+1) old e - (xs.length+1))) e)) base e (.slice (some ⟨w.heap.size,0,none⟩) (xs.length+1) (grownCap w (xs.length+1) old e)) (xs ++ [x])/\
  w.grownBy (w.drew.alloc (.cells (xs.toArray ++ [x].toArray ++ Builtin.zeroCells z.cells (grownCap w (xs.length+1) old e - (xs.length+1))) e)) row:=by
  intro old row;have hge:=grownCap_ge w (xs.length+1) old e;have hcm:grownCap w (xs.length+1) old e<=maxLen:=grownCap_le_maxLen w (xs.length+1) old e (by unfold maxLen;omega)
  have hs:(xs.toArray ++ [x].toArray ++ Builtin.zeroCells z.cells (grownCap w (xs.length+1) old e - (xs.length+1))).size=grownCap w (xs.length+1) old e:=by
   simp only [Array.size_append,List.size_toArray,size_zeroCells,hzs,cI];omega
  refine ⟨.inr ⟨w.heap.size,0,xs.length+1,_,_,rfl,hb,heap_alloc_new w.drew _,by simp,hge,by unfold maxLen at hcm;omega,by rw [hs];omega,?_⟩,⟨rfl,rfl,rfl,by simp,fun k hk _=>heap_alloc_old w.drew _ hk⟩⟩;simp only [Array.toList_append,bZ];have:(xs ++ [x]).length=xs.length+1:=by simp
  rw [<- this];exact List.take_left
 rcases h with ⟨rfl,rfl⟩ | ⟨g,p,n,cap,cur,rfl,hq⟩
 ·have hrun:=run_append_nil (P:=P) w t ty e i z ht hi hz a 1 c [x] (by simp [hsize]) hnews (by omega) (by omega) (by omega);refine ⟨_,_,hrun,?_⟩;have:=grown 0 (Value.slice none 0 0).ownBlock;simpa using this
 ·have hl:=hq.len;by_cases hroom:n+1<=cap
  ·have hfit:=hq.fit;have hrun:=gS (P:=P) w t ty e i ht hi g p n cap cur hq.heap a 1 c [x] (by simp [hsize]) hnews (by simpa using h1) hroom (by rw [hsize];simp;omega);rw [hsize,Nat.mul_one] at hrun;refine ⟨_,_,hrun,.inr ⟨g,p,n+1,cap,(cur.toList.take (p+n) ++ [x] ++ cur.toList.drop (p+n+[x].length)).toArray,rfl,hq.low,?_,by simp [hl],hroom,hq.big,?_,?_⟩,?_⟩
   ·exact setRow_heap w g cur _ e (0,0) hq.heap
   ·simp;omega
   ·have hA:(cur.toList.take (p+n)).drop p=xs:=by
     rw [<- hq.row,List.drop_take,show p+n - p=n by omega]
    have hp:p<=(cur.toList.take (p+n)).length:=by simp;omega
    simp only [cI,List.append_assoc];rw [List.drop_append_of_le_length hp,hA,List.take_append,List.take_of_length_le (by omega),hl,show n+1 - n=1 by omega];rfl
   ·exact ⟨rfl,rfl,rfl,by simp,fun k _ hk=>setRow_other w g k _ (fun h=>hk (by rw [h];rfl))⟩
  ·have hby2:(n+1) * i.bytes<=140737488355328:=by
    have h2:(n+1) * i.bytes<=(n+1) * 16:=Nat.mul_le_mul_left _ hby;omega
   have hold:∀j u,xs[j]?=some u->w.cell? ((⟨g,p,none⟩:Addr).add j)=some u:=fun j u hj=>by rw [Addr.add_lit];exact hq.cell j u hj
   have hfit:=growslice_fits (need:=n+1) (old:=cap) (bytes:=i.bytes) (by omega) hby2;have h63:((n+1:Nat):Int)<=9223372036854775807:=by omega
   have hg1:cap<n+1:=by omega
   have hlo:xs.length=n * i.size:=by rw [hsize,hl,Nat.mul_one]
   have hln:[x].length=1 * i.size:=by rw [hsize];rfl
   have hrun:=run_append_grow (P:=P) w t ty e i z ht hi hz ⟨g,p,none⟩ n cap xs hlo hold a 1 c [x] hln hnews hg1 h63 hfit;subst hl;exact ⟨_,_,hrun,grown cap _⟩
end
theorem mC {P:Program} (w:World) {ops:Array Oper} {rest:List Oper} {o:Oper} {a:Act} {Q:Exit->Act->World->Prop} (hgd:o.guard=none) (s x:Operand) (t:TypeId)
 (ho:o.op = .call { callee:= .builtin .append,args:= #[s,x],argTypes:= #[t,t] }) (base:Nat) (e:TypeId) (i:TypeInfo) (z:Value) (ht:P.underlying t=some (.slice e)) (hi:P.info? e=some i) (hz:i.zero=some z) (hsize:i.size=1) (hby:i.bytes<=16) (hzs:z.cells.size=1)
 (v:Value) (xs:List Value) (hs:a.eval s=v) (h:Qu w base e v xs) (ad:Addr) (c:Nat) (y:Value) (hx:a.eval x = .slice (some ad) 1 c) (hy:w.cell? ad=some y) (h1:y.oneCell'=true) (hlen:xs.length+1<=1099511627776) (hb:base<=w.heap.size)
 (hK:∀v' w',Qu w' base e v' (xs ++ [y])->w.grownBy w' v.ownBlock->wpList P ops Q rest (a.put o.dst v') w'):wpList P ops Q (o :: rest) a w:=by
 refine wpList_plain hgd fun K' hK'=>?_
 obtain ⟨v',w',hrun,h2,h3⟩:=h.append (ty:=o.type) ht hi hz hsize hby hzs ad c y hy h1 hlen hb;unfold Oper.wp execOp;simp only [ho,resolve,invoke,builtin,Sem.run_bind,Sem.run_pure,Result.andThen_ok,List.map_toArray,List.map_cons,List.map_nil,hs,hx,hrun];exact hK' _ _ (hK v' w' h2 h3)
end
section
open Go Go.RowKit Go.Maps
theorem nO (r:Nat) (n a:Int) (w:World) (x0:w.cell? ⟨r,0,none⟩=some (.int .i64 n)):
 Calls Tryz.prog 132 #[.pointer (some ⟨r,0,none⟩),.int .i64 a] w fun e' w'=>e' = .returned (.bool (decide (0<=a) && decide (a<n)))/\w'=w:=by
 obtain ⟨q,hq⟩:∃q,(decide (0<=a) && decide (a<n))=q:=⟨_,rfl⟩;rw [hq];have HQ:=aH hq;clear hq;go_enter Tryz.func132,Tryz.ntmps132
 go_wp2_with fail
 all_goals
  go_ret;refine ⟨?_,rfl⟩;rw [<- HQ.out]
  first
   | (simp_all;done)
   | (simp_all;omega)
structure Bfs (pairs:List (Int × Int)) (n:Nat) (a b:Int) (sl qs:List Int) (ex:Int->Prop):Prop where
 nd:sl.Nodup
 rng:∀x∈sl,0<=x/\x<(n:Int)
 rch:∀x∈sl,Rch pairs a x
 sub:∀x∈qs,x∈sl
 cls:∀x∈sl,x∉qs->¬ex x->∀y,(x,y)∈pairs->y∈sl
 tgt:b∈sl->b=a
 hd:a∈sl
theorem Bfs.start {pairs:List (Int × Int)} {n:Nat} {a b:Int} (h0:0<=a) (h1:a<n):Bfs pairs n a b [a] [a] (fun _=>False):=
 ⟨by simp,by simp;omega,fun x hx=>by rw [bU] at hx;subst hx;exact .refl x,fun x hx=>hx,fun x hx hq=>absurd hx hq,fun h=>by simpa using h,by simp⟩
theorem Bfs.pop {pairs:List (Int × Int)} {n:Nat} {a b x:Int} {sl qs:List Int} (h:Bfs pairs n a b sl (x :: qs) (fun _=>False)):Bfs pairs n a b sl qs (fun u=>u=x):=
 ⟨h.nd,h.rng,h.rch,fun y hy=>h.sub y (by simp [hy]),fun y hy hq hne=>h.cls y hy (by simp only [cM,not_or];exact ⟨hne,hq⟩) (fun f=>f),h.tgt,h.hd⟩
theorem Bfs.push {pairs:List (Int × Int)} {n:Nat} {a b x y:Int} {sl qs:List Int} (h:Bfs pairs n a b sl qs (fun u=>u=x)) (hx:x∈sl) (hr:∀p∈pairs,0<=p.1/\p.1<(n:Int)/\0<=p.2/\p.2<(n:Int)) (hp:(x,y)∈pairs) (hy:y∉sl) (hb:y≠b):
 Bfs pairs n a b (y :: sl) (qs ++ [y]) (fun u=>u=x):=by
 refine ⟨List.nodup_cons.2 ⟨hy,h.nd⟩,?_,?_,?_,?_,?_,by simp [h.hd]⟩
 ·intro u hu;rcases List.mem_cons.1 hu with rfl | hu
  ·have:=hr _ hp;exact ⟨this.2.2.1,this.2.2.2⟩
  ·exact h.rng u hu
 ·intro u hu;rcases List.mem_cons.1 hu with rfl | hu
  ·exact .step (h.rch x hx) hp
  ·exact h.rch u hu
 ·intro u hu;rcases List.mem_append.1 hu with hu | hu
  ·exact List.mem_cons_of_mem _ (h.sub u hu)
  ·rw [bU] at hu;subst hu;simp
 ·intro u hu hq hne z hz;simp only [cL,bU,not_or] at hq;rcases List.mem_cons.1 hu with rfl | hu
  ·exact absurd rfl hq.2
  ·exact List.mem_cons_of_mem _ (h.cls u hu hq.1 hne z hz)
 ·intro hbs;rcases List.mem_cons.1 hbs with e | hbs
  ·exact absurd e.symm hb
  ·exact h.tgt hbs
theorem Bfs.close {pairs:List (Int × Int)} {n:Nat} {a b x:Int} {sl qs:List Int} (h:Bfs pairs n a b sl qs (fun u=>u=x)) (hx:∀y,(x,y)∈pairs->y∈sl):Bfs pairs n a b sl qs (fun _=>False):=
 ⟨h.nd,h.rng,h.rch,h.sub,fun u hu hq _ y hy=>by
   by_cases e:u=x
   ·subst e;exact hx y hy
   ·exact h.cls u hu hq e y hy,h.tgt,h.hd⟩
theorem Bfs.done {pairs:List (Int × Int)} {n:Nat} {a b:Int} {sl:List Int} (h:Bfs pairs n a b sl [] (fun _=>False)):b∈sl↔Rch pairs a b:=
 ⟨h.rch b,fun hr=>hr.closed (S:=fun u=>u∈sl) (fun x y hx hp=>h.cls x hx (by simp) (fun f=>f) y hp) h.hd⟩
theorem Bfs.len {pairs:List (Int × Int)} {n:Nat} {a b:Int} {sl qs:List Int} {ex:Int->Prop} (h:Bfs pairs n a b sl qs ex):sl.length<=n:=dY n sl h.nd h.rng
theorem zA {pairs:List (Int × Int)} {x y:Int}:y∈relL pairs false x↔(x,y)∈pairs:=by
 simp only [relL,Bool.false_eq_true,if_false,cN,List.mem_filter,decide_eq_true_eq];constructor
 ·rintro ⟨⟨p,q⟩,⟨h1,h2⟩,h3⟩;simp only at h2 h3;subst h2 h3;exact h1
 ·intro h;exact ⟨(x,y),⟨h,rfl⟩,rfl⟩
def inF (sl:List Int):Int->Bool:=fun x=>decide (x∈sl)
def i64F (g:Int->Bool):Lit->Bool
 | .int .i64 n=>g n
 | _=>false
theorem fI (sl:List Int) (y:Int):i64F (inF (y :: sl)) (.int .i64 y)=true:=by simp [i64F,inF]
theorem fW (sl:List Int) (y:Int):∀k,k≠Lit.int .i64 y->i64F (inF (y :: sl)) k=i64F (inF sl) k:=by
 intro k hk;cases k <;> try rfl
 rename_i q n;cases q <;> try rfl
 have:n≠y:=fun e=>hk (by rw [e])
 simp [i64F,inF,this]
theorem nN:i64F (inF [])=fun _=>false:=by
 funext k
 cases k <;> try rfl
 rename_i q n;cases q <;> rfl
theorem eF:∀w,(zeroValue 4).run Tryz.prog w = .ok (.bool false) w:=Tryz.zeroValue4
theorem kC (pairs:List (Int × Int)) (n:Nat) (a b:Int) (r:Nat) (w:World) (hR:Rel3 w r n (relL pairs)) (hr:∀p∈pairs,0<=p.1/\p.1<(n:Int)/\0<=p.2/\p.2<(n:Int)) (hn:n<=65536) (_hl:pairs.length<=65535):
 Calls Tryz.prog 184 #[.pointer (some ⟨r,0,none⟩),.int .i64 a,.int .i64 b] w fun e' w'=>e' = .returned (.bool (outB pairs n a b))/\Below w.heap.size w w':=by
 obtain ⟨M,hM,hLK⟩:=hR;obtain ⟨x0,x1,x2⟩:=gY hM;have HX0:=aH x0;by_cases hab:0<=a/\a<(n:Int)/\0<=b/\b<(n:Int)
 case neg=>
  have HF:Hid (outB pairs n a b=false):=aH (by unfold outB;rw [bD (by omega)]);rw [HF.out];clear hLK hM;by_cases ha:0<=a/\a<(n:Int)
  ·have e1:(decide (0<=a) && decide (a<(n:Int)))=true:=by simp [ha]
   have e2:(decide (0<=b) && decide (b<(n:Int)))=false:=by simp;omega
   have E1:=aH e1;have E2:=aH e2;clear e1 e2 ha hab;go_enter Tryz.func184,Tryz.ntmps184
   go_wp2_with fail
   go_step3
   go_wp2_with (go_at_call 132;refine (nO r n _ w HX0.out).mono ?_;rintro e' w1 ⟨rfl,hw⟩;obtain rfl:=hw.symm;first | rw [E1.out] | rw [E2.out])
   rw [Exit.noGoto_ret];go_ret;exact ⟨rfl,aZ _ _⟩
  ·have e1:(decide (0<=a) && decide (a<(n:Int)))=false:=by simp;omega
   have E1:=aH e1;clear e1 ha hab;go_enter Tryz.func184,Tryz.ntmps184
   go_wp2_with fail
   go_step3
   go_wp2_with (go_at_call 132;refine (nO r n _ w HX0.out).mono ?_;rintro e' w1 ⟨rfl,hw⟩;obtain rfl:=hw.symm;rw [E1.out])
   rw [Exit.noGoto_ret];go_ret;exact ⟨rfl,aZ _ _⟩
 case pos=>
  obtain ⟨ha0,ha1,hb0,hb1⟩:=hab;have HQ:=aH (zF hr ha0 ha1 hb0 hb1);generalize outB pairs n a b=q at HQ ⊢;have e1:(decide (0<=a) && decide (a<(n:Int)))=true:=by simp [ha0,ha1]
  have e2:(decide (0<=b) && decide (b<(n:Int)))=true:=by simp [hb0,hb1]
  have E1:=aH e1;have E2:=aH e2;have HLK:=aH hLK;have HM:=aH hM;have keya:=key3 (a:=a) ha0 (by omega);obtain ⟨i0,hi,hz0,hz1,hz2⟩:=info_parts dV;have hmm:= @run_makeMap Tryz.prog;clear e1 e2 hLK hM;have hmade:=OwnB.made w Tryz.prog 3 4;rw [<- nN] at hmade;obtain ⟨w0,hrun0,hown0,hg0⟩:=hmade.store law3 Tryz.underlying129 Tryz.underlying4 (by unfold maxLen;omega) keya trivial true (fI [] a) (fW [] a);have hB0:Below w.heap.size w w0:=((aZ _ _).alloc (bA _) _).trans (dN hg0 (bA _) (by simp));have hs0:w.heap.size+1<=w0.heap.size:=by have:=hg0.size;simpa using this
  have HOWN0:=aH hown0;have HB0:=aH hB0;clear hmade hown0 hg0 hB0;go_enter Tryz.func184,Tryz.ntmps184
  go_wp2_with fail
  go_step3
  go_wp2_with (first
   | (go_at_call 132;refine (nO r n _ w HX0.out).mono ?_;rintro e' w1 ⟨rfl,hw⟩;obtain rfl:=hw.symm;first | rw [E1.out] | rw [E2.out])
   | fail)
  go_step3
  go_wp2_with fail
  have keyb:=key3 (a:=b) hb0 (by omega);have HBF0:=aH (Bfs.start (pairs:=pairs) (b:=b) ha0 ha1);have HQ0:=aH (Qu.one w0 (w.heap.size+1) 3 (.int .i64 a) w0.heap.size rfl hs0);go_loopg [8] (2 * (n - 1)+1) (fun gk v wr=>∃(sl qs:List Int),gk=2 * (n - sl.length)+qs.length/\gk<=2 * n+1/\Hid (Bfs pairs n a b sl qs (fun _=>False))/\Hid (Qu wr (w.heap.size+1) 3 v (qs.map (Value.int .i64)))/\Hid (OwnB Tryz.prog 3 4 wr w.heap.size sl.length (i64F (inF sl)))/\Hid (Below w.heap.size w wr)/\w.heap.size+1<=wr.heap.size)
  case atStart=>exact ⟨[a],[a],by simp,by omega,HBF0,HQ0,aH (HOWN0.out.alloc _),aH (HB0.out.alloc HB0.out.size _),by simp;omega⟩
  case round=>
   clear HBF0 HQ0 HOWN0 HB0 hrun0;obtain ⟨sl,qs,hgk,hgk2,HBF,HQU,HOWN,HBL,hsz⟩:=hrel;cases qs with
   | nil=>
     obtain ⟨A,c,rfl,hc1,hc2⟩:=HQU.out.slice
     have HFIN:Hid (decide (b∈sl)=q):=aH (by
      rw [bS,decide_eq_true_eq,HBF.out.done]
      exact HQ.out.symm)
     have hlk:=HOWN.out.look law3 Tryz.underlying129 Tryz.underlying4 (eF _) keyb;simp only [i64F,inF] at hlk;rw [HFIN.out] at hlk;simp only [List.map_nil,bQ] at hc1 hc2 ⊢;clear HQU HOWN HBF;go_wp2_with fail
     rw [Exit.noGoto_ret];go_ret;exact ⟨rfl,HBL.out⟩
   | cons x qs=>
     obtain ⟨A,c,rfl,hc1,hc2⟩:=HQU.out.slice;obtain ⟨g,p,rfl,hlen,hle,hbig,y0,hq2⟩:=HQU.out.tail;have hbf:=HBF.out.pop;have hx:=HBF.out.sub x (by simp);have hxr:=HBF.out.rng x hx;have hlen0:=HBF.out.len;have keyx:=key3 (a:=x) hxr.1 (by omega);obtain ⟨A2,c2,hlk,hsl⟩:=HLK.out false x hxr.1 (by omega);have hlkr:=hlk wr HBL.out;have hys:=aH (kA pairs false x);have HMEM:=aH (fun y=> @zA pairs x y);have hle2:=hsl.le;have hbig2:=hsl.big;have HSL:=aH hsl;have HBF2:=aH hbf;have HXM:=aH hx;have hcut:=uL (P:=Tryz.prog) 48 3 (some ⟨g,p,none⟩) (qs.length+1) c 1 1 Tryz.underlying48 Tryz.sizeOf3 (by omega);simp only [List.map_cons,bN,cH] at hq2 hle hgk hc1 ⊢;have HQ2:Hid (Qu wr (w.heap.size+1) 3 (.slice (cutA (some ⟨g,p,none⟩) c 1 1) (qs.length+1 - 1) (c - 1)) (qs.map (Value.int .i64))):=aH hq2;obtain ⟨v2,hv2⟩:∃v2,Value.slice (cutA (some ⟨g,p,none⟩) c 1 1) (qs.length+1 - 1) (c - 1)=v2:=⟨_,rfl⟩;rw [hv2] at HQ2 hcut
     have hidx0:∀(W:World) (A0:Option Addr),A0=some ⟨g,p,none⟩->(Instr.indexAt 48 (.slice A0 (qs.length+1) c) (.int .i64 0)).run Tryz.prog W = .ok (.pointer (some ⟨g,p,none⟩)) W:=fun W A0 h=>by
      subst h;go_simp
     obtain ⟨AA,hAA⟩:∃AA,some (⟨g,p,none⟩:Addr)=AA:=⟨_,rfl⟩;have hidx:=fun W=>hidx0 W AA hAA.symm
     rw [hAA] at hcut ⊢;have hcut1:∀W,(Instr.slice 48 (.slice AA (qs.length+1) c) (some (.int .i64 1)) none none).run Tryz.prog W = .ok v2 W:=fun W=>hcut W
     clear hAA hidx0 hcut;have z1:wr.cell? ⟨r,1,none⟩=some (.map (some (M false))):=(HBL.out.cell (p:=⟨r,1,none⟩) (cF _ _ x1)).trans x1;clear hbf hx hxr hlk hsl hq2 HBF hv2;generalize relL pairs false x=ys at *;go_wp2_with fail
     go_loopg [8,42] ys.length (fun gj v i wr2=>∃(sl2 qs2:List Int) (k:Nat),gj=ys.length - k/\k<=ys.length/\i = .int .i64 k/\2 * (n - sl2.length)+qs2.length<=2 * (n - sl.length)+qs.length/\Hid (Bfs pairs n a b sl2 qs2 (fun u=>u=x))/\Hid (x∈sl2)/\Hid (Qu wr2 (w.heap.size+1) 3 v (qs2.map (Value.int .i64)))/\Hid (OwnB Tryz.prog 3 4 wr2 w.heap.size sl2.length (i64F (inF sl2)))/\Hid (Below w.heap.size w wr2)/\w.heap.size+1<=wr2.heap.size/\Hid (∀j y,j<k->ys[j]?=some y->y∈sl2))
     case atStart=>exact ⟨sl,qs,0,by omega,by omega,rfl,bA _,HBF2,HXM,HQ2,HOWN,HBL,hsz,aH (fun j y hj=>absurd hj (by omega))⟩
     case round=>
      clear HBF2 HXM HQ2 HOWN HBL hcut1 hlkr z1 y0 hidx;obtain ⟨sl2,qs2,k,hgj,hk,rfl,hms,HBF,HXM,HQU,HOWN,HBL,hsz2,HDN⟩:=hrel;by_cases hlt:k<ys.length
      ·have hb2:=HBL.out;obtain ⟨g2,o2,rfl,hb2',hy⟩:=(HSL.out.keep RInt.keeps hb2).sl.at_ hlt;have HXY:=aH ((HMEM.out ys[k]).1 (bO hlt))
       have HDN2:Hid (∀sl3:List Int,(∀u∈sl2,u∈sl3)->ys[k]∈sl3->∀j y,j<k+1->ys[j]?=some y->y∈sl3):=aH (fun sl3 h1 h2 j y hj hyj=>by
        rcases Nat.lt_or_ge j k with hjk | hjk
        ·exact h1 y (HDN.out j y hjk hyj)
        ·have:j=k:=by omega
         rw [this,bF hlt] at hyj;injection hyj with hyj
         rw [<- hyj]
         exact h2)
       obtain ⟨y,hyy⟩:∃y,ys[k]=y:=⟨_,rfl⟩;rw [hyy] at hy HXY HDN2;have y0:wr.cell? ⟨g2,o2+k,none⟩=some (.int .i64 y):=(by simpa [RInt] using hy);have hyr:=hr _ HXY.out;simp only at hyr;have keyy:=key3 (a:=y) hyr.2.2.1 (by omega);have hown:=HOWN.out;have hlen2:=HBF.out.len;clear hy hyy hyr HDN;by_cases hyb:y=b
       ·have HF:Hid (q=true):=aH (HQ.out.2 (hyb ▸ Rch.step (HBF.out.rch x HXM.out) HXY.out));subst hyb;clear HQU HBF HOWN
        go_wp2_with (first
         | (at_mapUpdate;refine eE _ rfl _ _ _ 129 rfl 3 4 law3 Tryz.underlying129 Tryz.underlying4 _ _ _ rfl hown (by unfold maxLen;omega) _ _ _ rfl rfl keyy trivial _ (fI sl2 y) (fW sl2 y) ?_;intro w3 hown3 hg3)
         | (at_lookup;refine dB _ rfl _ _ 129 rfl 3 4 law3 Tryz.underlying129 Tryz.underlying4 (eF _) _ _ _ rfl hown3 _ _ rfl keyy ?_;rw [fI]))
        rw [Exit.noGoto_ret];go_ret;exact ⟨by rw [HF.out];rfl,HBL.out.trans (dN hg3 (bA _) (by omega) |>.mono (bA _))⟩
       ·have e3:(y == b)=false:=by simp [hyb]
        have HYB:=aH hyb;clear hyb;by_cases hm:y∈sl2
        ·have HM2:=aH hm;have HFB:Hid (i64F (inF sl2) (.int .i64 y)=true):=aH (by simp [i64F,inF,hm]);clear hm;go_wp2_with (at_lookup;refine dB _ rfl _ _ 129 rfl 3 4 law3 Tryz.underlying129 Tryz.underlying4 (eF _) _ _ _ rfl hown _ _ rfl keyy ?_;rw [HFB.out])
         go_roundg (ys.length - (k+1))
         case measure=>omega
         case rel=>exact ⟨sl2,qs2,k+1,rfl,by omega,by go_num,hms,HBF,HXM,HQU,HOWN,HBL,hsz2,aH (HDN2.out sl2 (fun u h=>h) HM2.out)⟩
        ·have HM2:=aH hm;have HFB:Hid (i64F (inF sl2) (.int .i64 y)=false):=aH (by simp [i64F,inF,hm]);have HBF3:=aH (HBF.out.push HXM.out hr HXY.out hm HYB.out);have hlen3:=HBF3.out.len;simp only [bN] at hlen3;clear hm
         go_wp2_with (first
          | (at_lookup;refine dB _ rfl _ _ 129 rfl 3 4 law3 Tryz.underlying129 Tryz.underlying4 (eF _) _ _ _ rfl hown _ _ rfl keyy ?_;rw [HFB.out])
          | (at_mapUpdate;refine eE _ rfl _ _ _ 129 rfl 3 4 law3 Tryz.underlying129 Tryz.underlying4 _ _ _ rfl hown (by unfold maxLen;omega) _ _ _ rfl rfl keyy trivial _ (fI sl2 y) (fW sl2 y) ?_;intro w3 hown3 hg3)
          | (at_builtin;refine mC _ rfl _ _ 48 rfl (w.heap.size+1) 3 i0 (.int .i64 0) Tryz.underlying48 hi hz0 hz1 (by omega) rfl _ _ rfl ((HQU.out.block (fun k hk=>hg3.block k (HQU.out.lt k hk).2 (by have:=(HQU.out.lt k hk).1;simp;omega))).below ((aZ _ _).alloc (bA _) _)) ⟨_,0,none⟩ 1 (.int .i64 y) rfl (eD w3 _ _ _ rfl 0 _ rfl) rfl (by rw [cH];omega) (by have:=hg3.size;simp;omega) ?_;intro v4 w4 hq4 hg4))
         have hs3:=hg3.size;have hs4:=hg4.size;simp only [bK] at hs4;have hrow:∀j,u8.ownBlock=some j->w.heap.size+1<=j:=fun j hj=>(HQU.out.lt j hj).1
         have hB3:Below w.heap.size w (w3.alloc (.cells #[.int .i64 y] 3)):=(HBL.out.trans (dN hg3 (bA _) (by omega))).alloc (by omega) _;have HB4:=aH (hB3.grown hg4 (by simp;omega) (fun j hj=>by have:=hrow j hj;omega));have HO4:=aH ((hown3.alloc _).block (hg4.block _ (by simp;omega) (fun e=>by have:=hrow _ e.symm;omega)));go_roundg (ys.length - (k+1))
         case measure=>omega
         case rel=>exact ⟨y :: sl2,qs2 ++ [y],k+1,rfl,by omega,by go_num,by simp only [bN,bE,bQ];omega,HBF3,aH (List.mem_cons_of_mem _ HXM.out),aH (by rw [bV];exact hq4),HO4,HB4,by omega,aH (HDN2.out (y :: sl2) (fun u h=>List.mem_cons_of_mem _ h) (by simp))⟩
      ·have HCL:=aH (HBF.out.close (fun y hy=>by
        obtain ⟨j,hj,he⟩:=List.mem_iff_getElem.1 ((HMEM.out y).2 hy)
        exact HDN.out j y (by omega) (by rw [bF hj,he])))
       clear HBF HDN;go_wp2_with fail
       go_roundg (2 * (n - sl2.length)+qs2.length)
       case measure=>omega
       case rel=>exact ⟨sl2,qs2,rfl,by omega,HCL,HQU,HOWN,HBL,hsz2⟩
end
section
open Go Go.RowKit
theorem fA (m:Nat):((m:Int) == 0)=decide (m=0):=by
 rw [bS];simp
theorem eN (p:Plc) (A:Option Addr) (c:Nat) (w:World):
 Calls Tryz.prog 117 #[.agg #[.int .i64 p.loc,.slice A p.proj.length c]] w fun e' w'=>e' = .returned (.bool (zeroP p))/\Below w.heap.size w w':=by
 obtain ⟨m,hm⟩:∃m,p.proj.length=m:=⟨_,rfl⟩;unfold zeroP;rw [hm];obtain ⟨q,hq⟩:∃q,(decide (p.loc=0) && decide (m=0))=q:=⟨_,rfl⟩;rw [hq];have HQ:=aH hq;clear hq hm;go_enter Tryz.func117,Tryz.ntmps117
 go_wp2_with fail
 all_goals
  go_ret;refine ⟨?_,aJ⟩;rw [<- HQ.out]
  first
   | (simp_all;done)
   | (simp_all;exact fA m)
theorem dX (x:Bool) (w:World):Calls Tryz.prog 122 #[.bool x] w fun e' w'=>e' = .returned (.int .i64 (fail22 x))/\w'=w:=by
 cases x
 all_goals
  go_enter Tryz.func122,Tryz.ntmps122
  go_wp2_with fail
  go_ret;exact ⟨rfl,rfl⟩
def ckC (b:Bdy) (bh:BH) (r:Nat):List Value:=[.string b.name,.slice bh.A1 b.regions.length bh.c1,.slice bh.A2 b.outl.length bh.c2,.slice bh.A3 b.types.length bh.c3,.slice bh.A4 b.locals.length bh.c4,.int .i64 b.args,.slice bh.A5 b.blocks.length bh.c5,.pointer (some ⟨r,0,none⟩)]
theorem eI (b:Bdy) (bh:BH) (r:Nat) (p:Plc) (A:Option Addr) (c:Nat) (w:World) (H:BdAt w b bh) (hp:Slc 2 RPj w A c p.proj) (hok:Okay b.types b.locals):
 Calls Tryz.prog 125 #[.agg (ckC b bh r).toArray,.agg #[.int .i64 p.loc,.slice A p.proj.length c]] w fun e' w'=>e' = .returned (.tuple #[.int .i64 (tyB b p).1,.int .i64 (tyB b p).2])/\Below w.heap.size w w':=by
 have HT:=aH (fun W (hb:Below w.heap.size w W)=>sK b.types b.locals p.loc p.proj bh.A3 bh.A4 A bh.c3 bh.c4 c W (H.keep hb).typ (H.keep hb).loc (hp.keep RPj.keeps hb) hok);change Hid (∀W,Below w.heap.size w W->Calls Tryz.prog 157 _ W fun e' w'=>e' = .returned (.tuple #[.int .i64 (tyB b p).1,.int .i64 (tyB b p).2])/\Below W.heap.size W w') at HT;generalize tyB b p=q at HT ⊢;clear H hp hok;unfold ckC;go_enter Tryz.func125,Tryz.ntmps125
 go_wp2_with (go_at_call 157;refine (HT.out _ (bel2 _ _ _)).mono ?_;rintro e' w1 ⟨rfl,hb1⟩)
 go_ret2
 exact ⟨rfl,(bel2 _ _ _).trans (hb1.mono (bel2 _ _ _).size)⟩
def rvC (r:Rvl) (A:Option Addr) (c:Nat) (B:Option Addr) (d:Nat):List Value:=[.int .i64 r.kind,.int .i64 r.op,.int .i64 r.reg,.bool r.mu,.int .i64 r.place.loc,.slice A r.place.proj.length c,.slice B r.args.length d]
def tmC (t:Trm) (A:Option Addr) (c:Nat) (B:Option Addr) (d:Nat) (C:Option Addr) (e:Nat):List Value:=[.int .i64 t.kind,.slice A t.targets.length c,.slice B t.args.length d,.int .i64 t.place.loc,.slice C t.place.proj.length e,.string t.name]
def opC (o:Opd) (A:Option Addr) (c:Nat):List Value:=[.int .i64 o.kind,.int .i64 o.place.loc,.slice A o.place.proj.length c,.int .i64 o.n]
theorem cT (w:World) (l:List Value) (t:TypeId):∀i v,l[i]?=some v->(w.alloc (.cells l.toArray t)).cell? ⟨w.heap.size,i,none⟩=some v:=fun i v hi=>by
 rw [World.cell?_alloc_at _ _ _ _ (by simp)];simpa using hi
theorem cV {W w1:World} {n:Nat} {l:List Value} (h:∀i v,l[i]?=some v->W.cell? ⟨n,i,none⟩=some v) (hb:Below W.heap.size W w1):∀i v,l[i]?=some v->w1.cell? ⟨n,i,none⟩=some v:=fun i v hi=>cQ hb (h i v hi)
theorem lM (m k:Nat):((m:Int) == (k:Int))=decide (m=k):=by
 rw [bS];simp;omega
theorem sI (r:Rvl) (A B:Option Addr) (c d:Nat) (w:World):
 Calls Tryz.prog 151 #[.agg (rvC r A c B d).toArray] w fun e' w'=>e' = .returned (.bool (unusedR r))/\Below w.heap.size w w':=by
 have HZ:=aH (fun W=>eN r.place A c W);obtain ⟨k,op,rg,mu,pl,args⟩:=r;simp only at HZ;unfold rvC;simp only;obtain ⟨m,hm⟩:∃m,args.length=m:=⟨_,rfl⟩;have HQ:Hid (unusedR ⟨k,op,rg,mu,pl,args⟩=(let plain:=decide (rg=0) && !mu && zeroP pl;if k=0 then plain && decide (op=0) && decide (m=1) else if k=1 then decide (op=0) && decide (m=0) else if k=2 then plain && decide (m=1) else if k=3 then plain && decide (m=2) else plain && decide (op=0))):=aH (by unfold unusedR;rw [<- hm]);rw [hm];generalize unusedR ⟨k,op,rg,mu,pl,args⟩=q at HQ ⊢;generalize zeroP pl=z at HZ HQ;clear hm;have n1:=aH (lM m 1);have n0:=aH (fA m);have n2:=aH (lM m 2);rcases (show k=0\/k=1\/k=2\/k=3\/(k≠0/\k≠1/\k≠2/\k≠3) by omega) with rfl | rfl | rfl | rfl | ⟨h0,h1,h2,h3⟩
 case inr.inr.inr.inr=>
  have e0:(k == 0)=false:=by simp [h0]
  have e1:(k == 1)=false:=by simp [h1]
  have e2:(k == 2)=false:=by simp [h2]
  have e3:(k == 3)=false:=by simp [h3]
  have HF:Hid (q=(decide (rg=0) && !mu && z && decide (op=0))):=aH (by rw [HQ.out];simp only;rw [bB h0,bB h1,bB h2,bB h3]);clear HQ h0 h1 h2 h3;go_enter Tryz.func151,Tryz.ntmps151
  go_wp2_with (go_at_call 117;refine (HZ.out _).mono ?_;rintro e' w1 ⟨rfl,hb1⟩;have y:=cV (cT w _ _) hb1;obtain ⟨y0,y1,y2,y3,y4,y5,y6⟩:=aU y;clear y)
  all_goals
   go_ret;refine ⟨?_,by first | exact ((aZ _ _).alloc (bA _) _).trans (hb1.mono (by simp)) | exact aJ⟩;rw [HF.out];show Ending.returned (.bool _)=_;clear HF HZ;refine congrArg (fun b=>Ending.returned (Value.bool b)) ?_;try clear y0 y1 y2 y3 y4 y5 y6
   first | (clear e0 e1 e2 e3;have ho:(op == 0)=decide (op=0):=by (rw [bS];simp);rw [ho];simp_all;done) | (clear e0 e1 e2 e3;grind)
 ·have HF:=aH HQ.out;clear HQ;go_enter Tryz.func151,Tryz.ntmps151
  go_wp2_with (go_at_call 117;refine (HZ.out _).mono ?_;rintro e' w1 ⟨rfl,hb1⟩;have y:=cV (cT w _ _) hb1;obtain ⟨y0,y1,y2,y3,y4,y5,y6⟩:=aU y;clear y)
  all_goals
   go_ret;refine ⟨?_,by first | exact ((aZ _ _).alloc (bA _) _).trans (hb1.mono (by simp)) | exact aJ⟩;have m1:=n1.out;have m0:=n0.out;have m2:=n2.out;rw [HF.out];first | (simp_all;done) | (clear HZ;simp_all;done) | (cases mu <;> cases z <;> simp_all;done) | (clear HZ;grind)
 ·have HF:=aH HQ.out;clear HQ;go_enter Tryz.func151,Tryz.ntmps151
  go_wp2_with (go_at_call 117;refine (HZ.out _).mono ?_;rintro e' w1 ⟨rfl,hb1⟩;have y:=cV (cT w _ _) hb1;obtain ⟨y0,y1,y2,y3,y4,y5,y6⟩:=aU y;clear y)
  all_goals
   go_ret;refine ⟨?_,by first | exact ((aZ _ _).alloc (bA _) _).trans (hb1.mono (by simp)) | exact aJ⟩;have m1:=n1.out;have m0:=n0.out;have m2:=n2.out;rw [HF.out];first | (simp_all;done) | (clear HZ;simp_all;done) | (cases mu <;> cases z <;> simp_all;done) | (clear HZ;grind)
 ·have HF:=aH HQ.out;clear HQ;go_enter Tryz.func151,Tryz.ntmps151
  go_wp2_with (go_at_call 117;refine (HZ.out _).mono ?_;rintro e' w1 ⟨rfl,hb1⟩;have y:=cV (cT w _ _) hb1;obtain ⟨y0,y1,y2,y3,y4,y5,y6⟩:=aU y;clear y)
  all_goals
   go_ret;refine ⟨?_,by first | exact ((aZ _ _).alloc (bA _) _).trans (hb1.mono (by simp)) | exact aJ⟩;have m1:=n1.out;have m0:=n0.out;have m2:=n2.out;rw [HF.out];first | (simp_all;done) | (clear HZ;simp_all;done) | (cases mu <;> cases z <;> simp_all;done) | (clear HZ;grind)
 ·have HF:=aH HQ.out;clear HQ;go_enter Tryz.func151,Tryz.ntmps151
  go_wp2_with (go_at_call 117;refine (HZ.out _).mono ?_;rintro e' w1 ⟨rfl,hb1⟩;have y:=cV (cT w _ _) hb1;obtain ⟨y0,y1,y2,y3,y4,y5,y6⟩:=aU y;clear y)
  all_goals
   go_ret;refine ⟨?_,by first | exact ((aZ _ _).alloc (bA _) _).trans (hb1.mono (by simp)) | exact aJ⟩;have m1:=n1.out;have m0:=n0.out;have m2:=n2.out;rw [HF.out];first | (simp_all;done) | (clear HZ;simp_all;done) | (cases mu <;> cases z <;> simp_all;done) | (clear HZ;grind)
end
section
open Go Go.RowKit
attribute [local irreducible] Calls
def wrP (x:Blk) (k:Nat):Plc × Bool × Bool:=
 match x.stmts[k]? with
 | some s=>if s.kind=0 then (s.place,true,true) else if s.kind=1 then (⟨s.loc,[]⟩,true,false) else (⟨0,[]⟩,false,false)
 | none=>(x.term.place,decide (x.term.kind=3\/x.term.kind=4),decide (x.term.kind=3))
def wrA (x:Blk) (k:Nat) (a0 a4:Option Addr × Nat):Option Addr × Nat:=
 match x.stmts[k]? with
 | some s=>if s.kind=0 then a0 else (none,0)
 | none=>a4
def wrV (q:Plc × Bool × Bool) (a:Option Addr × Nat):Value:= .tuple #[.agg #[.int .i64 q.1.loc,.slice a.1 q.1.proj.length a.2],.bool q.2.1,.bool q.2.2]
def StA (w:World) (A1:Option Addr) (x:Blk) (k:Nat) (a0:Option Addr × Nat):Prop:=∀(h:k<x.stmts.length) b o,A1=some ⟨b,o,none⟩->w.cell? ⟨b,o+k * 11+2,none⟩=some (.slice a0.1 x.stmts[k].place.proj.length a0.2)/\Slc 2 RPj w a0.1 a0.2 x.stmts[k].place.proj
theorem StA.keep {w W:World} {A1:Option Addr} {x:Blk} {k:Nat} {a0:Option Addr × Nat} (h:StA w A1 x k a0) (hb:Below w.heap.size w W):StA W A1 x k a0:=fun hk b o e=>by
 obtain ⟨h1,h2⟩:=h hk b o e;exact ⟨cQ hb h1,h2.keep RPj.keeps hb⟩
theorem uB {w:World} {A1:Option Addr} {c1:Nat} {x:Blk} (h:Slc 11 RSt w A1 c1 x.stmts) (k:Nat):∃a0,StA w A1 x k a0:=by
 by_cases hk:k<x.stmts.length
 ·obtain ⟨b,o,hA,hb,hs⟩:=h.sl.at_ hk;obtain ⟨A0,c0,A,c,B,d,-,-,q2,-,-,-,-,-,-,-,-,hp,-,-⟩:=iM hs;refine ⟨(A0,c0),fun _ b' o' e=>?_⟩;rw [hA] at e;obtain ⟨rfl,rfl⟩:b=b'/\o=o':=by simpa using e
  exact ⟨q2,hp⟩
 ·exact ⟨(none,0),fun h=>absurd h hk⟩
theorem tH {w:World} {A1 A4:Option Addr} {c1 c4:Nat} {x:Blk} {k:Nat} {a0:Option Addr × Nat} (hs1:Slc 11 RSt w A1 c1 x.stmts) (hs4:Slc 2 RPj w A4 c4 x.term.place.proj) (h0:StA w A1 x k a0):Slc 2 RPj w (wrA x k a0 (A4,c4)).1 (wrA x k a0 (A4,c4)).2 (wrP x k).1.proj:=by
 have nl:Slc 2 RPj w none 0 ([]:List Pj):=⟨Sl.nil,by simp,by omega⟩;unfold wrA wrP;by_cases hk:k<x.stmts.length
 ·rw [bF hk];simp only;obtain ⟨b,o,hA,hb,hs⟩:=hs1.sl.at_ hk;by_cases e:x.stmts[k].kind=0
  ·rw [bD e,bD e];exact (h0 hk b o hA).2
  ·rw [bB e,bB e];split <;> exact nl
 ·rw [cG (by omega)];exact hs4
theorem st2 {W:World} {b:Nat} {T:TypeId} {z0 z1:Value} (hr:W.heap[b]?=some (.cells #[z0,z1] T (0,0))) (v0 v1:Value) {W9:World} (hW:(W.setCell ⟨b,0,none⟩ v0).setCell ⟨b,1,none⟩ v1=W9):
 W9.cell? ⟨b,0,none⟩=some v0/\W9.cell? ⟨b,1,none⟩=some v1/\∀n₀ w,n₀ <= b->Below n₀ w W->Below n₀ w W9:=by
 have hb:W9.heap[b]?=some (.cells #[v0,v1] T (0,0)):=by
  rw [<- hW];simp [World.setCell,Array.getElem?_modify,hr]
 refine ⟨by simp [World.cell?,hb],by simp [World.cell?,hb],fun n₀ w h hl=>?_⟩;rw [<- hW];exact (hl.setCell h _).setCell h _
theorem mY (x:Blk) (A1 A2 A3 A4:Option Addr) (c1 c2 c3 c4 k:Nat) (w:World) (hs1:Slc 11 RSt w A1 c1 x.stmts) (hk:k<=x.stmts.length) (a0:Option Addr × Nat) (h0:StA w A1 x k a0):
 Calls Tryz.prog 93 #[.agg (bkL x A1 c1 A2 c2 A3 c3 A4 c4).toArray,.int .i64 k] w fun e' w'=>e' = .returned (wrV (wrP x k) (wrA x k a0 (A4,c4)))/\Below w.heap.size w w':=by
 have hbl:=hs1.le;have hbg:=hs1.big;unfold bkL;obtain ⟨W0,hW0⟩:∃W0,(w.alloc (.cells ([Value.slice A1 x.stmts.length c1,.int .i64 x.term.kind,.slice A2 x.term.targets.length c2,.slice A3 x.term.args.length c3,.int .i64 x.term.place.loc,.slice A4 x.term.place.proj.length c4,.string x.term.name]).toArray 116)).alloc (.cells #[.int .i64 0,.slice none 0 0] 36)=W0:=⟨_,rfl⟩;have hb0:Below w.heap.size w W0:=by rw [<- hW0];exact bel2 _ _ _
 have ya:=cT w [Value.slice A1 x.stmts.length c1,.int .i64 x.term.kind,.slice A2 x.term.targets.length c2,.slice A3 x.term.args.length c3,.int .i64 x.term.place.loc,.slice A4 x.term.place.proj.length c4,.string x.term.name] 116;have hal:=alF (w.alloc (.cells ([Value.slice A1 x.stmts.length c1,.int .i64 x.term.kind,.slice A2 x.term.targets.length c2,.slice A3 x.term.args.length c3,.int .i64 x.term.place.loc,.slice A4 x.term.place.proj.length c4,.string x.term.name]).toArray 116)) (.cells #[.int .i64 0,.slice none 0 0] 36);have hr0:=heap_alloc_new (w.alloc (.cells ([Value.slice A1 x.stmts.length c1,.int .i64 x.term.kind,.slice A2 x.term.targets.length c2,.slice A3 x.term.args.length c3,.int .i64 x.term.place.loc,.slice A4 x.term.place.proj.length c4,.string x.term.name]).toArray 116)) (.cells #[.int .i64 0,.slice none 0 0] 36);rw [bK] at hr0;have hsz:W0.heap.size=w.heap.size+1+1:=by rw [<- hW0];simp
 rw [hW0] at hal hr0;have HSZ:=aH hsz;have x0:=cQ hal (ya 0 _ rfl);have x1:=cQ hal (ya 1 _ rfl);have x4:=cQ hal (ya 4 _ rfl);have x5:=cQ hal (ya 5 _ rfl);have HB0:=aH hb0;have HR0:=aH hr0;clear ya hal hb0 hr0 hsz;by_cases hks:k<x.stmts.length
 case neg=>
  obtain rfl:k=x.stmts.length:=by omega
  have HP:Hid (wrP x x.stmts.length=(x.term.place,decide (x.term.kind=3\/x.term.kind=4),decide (x.term.kind=3))):=aH (by unfold wrP;rw [cG (bA _)]);have HA:Hid (wrA x x.stmts.length a0 (A4,c4)=(A4,c4)):=aH (by unfold wrA;rw [cG (bA _)]);clear h0;have y0:W0.cell? ⟨w.heap.size+1,0,none⟩=some (.int .i64 0):=by simp [World.cell?,HR0.out]
  have y1:W0.cell? ⟨w.heap.size+1,1,none⟩=some (.slice none 0 0):=by simp [World.cell?,HR0.out]
  have yf:∀i,W0.frozen? ⟨w.heap.size+1,i,none⟩=false:=fun i=>by simp [World.frozen?,HR0.out]
  clear hs1 hk hks;obtain ⟨kd,hkd⟩:∃kd,x.term.kind=kd:=⟨_,rfl⟩
  have key:∃v1 v2,decide (kd=3\/kd=4)=v1/\decide (kd=3)=v2/\((v1=true/\v2=true/\(kd == 3)=true)\/(v1=true/\v2=false/\(kd == 3)=false/\(kd == 4)=true)\/(v1=false/\v2=false/\(kd == 3)=false/\(kd == 4)=false)):=by
   refine ⟨_,_,rfl,rfl,?_⟩;by_cases h3:kd=3
   ·exact .inl (by simp [h3])
   ·by_cases h4:kd=4
    ·exact .inr (.inl (by simp [h4]))
    ·exact .inr (.inr (by simp [h3,h4]))
  obtain ⟨v1,v2,e1,e2,key⟩:=key;rw [hkd,e1,e2] at HP;rw [hkd] at x1;have HW:=aH hW0;rw [hkd] at hW0;rw [hkd];clear e1 e2 hkd HW;rcases key with ⟨rfl,rfl,t3⟩ | ⟨rfl,rfl,t3,t4⟩ | ⟨rfl,rfl,t3,t4⟩
  ·go_enter Tryz.func93,Tryz.ntmps93
   go_wp2_with fail
   generalize hW9:(W0.setCell ⟨w.heap.size+1,0,none⟩ (.int .i64 x.term.place.loc)).setCell ⟨w.heap.size+1,1,none⟩ (.slice A4 x.term.place.proj.length c4)=W9;obtain ⟨u0,u1,hb⟩:=st2 HR0.out _ _ hW9;have HB9:=aH (hb w.heap.size w (by omega) HB0.out);clear hW9 hb;exact bodyPost_ret (v:= .tuple #[.agg #[.int .i64 x.term.place.loc,.slice A4 x.term.place.proj.length c4],.bool true,.bool true]) (by simp [results,Tryz.results93,go_sem,u0,u1]) rfl ⟨by rw [HP.out,HA.out];rfl,HB9.out⟩
  ·go_enter Tryz.func93,Tryz.ntmps93
   go_wp2_with fail
   generalize hW9:(W0.setCell ⟨w.heap.size+1,0,none⟩ (.int .i64 x.term.place.loc)).setCell ⟨w.heap.size+1,1,none⟩ (.slice A4 x.term.place.proj.length c4)=W9;obtain ⟨u0,u1,hb⟩:=st2 HR0.out _ _ hW9;have HB9:=aH (hb w.heap.size w (by omega) HB0.out);clear hW9 hb;exact bodyPost_ret (v:= .tuple #[.agg #[.int .i64 x.term.place.loc,.slice A4 x.term.place.proj.length c4],.bool true,.bool false]) (by simp [results,Tryz.results93,go_sem,u0,u1]) rfl ⟨by rw [HP.out,HA.out];rfl,HB9.out⟩
  ·go_enter Tryz.func93,Tryz.ntmps93
   go_wp2_with fail
   generalize hW9:(W0.setCell ⟨w.heap.size+1,0,none⟩ (.int .i64 x.term.place.loc)).setCell ⟨w.heap.size+1,1,none⟩ (.slice A4 x.term.place.proj.length c4)=W9;obtain ⟨u0,u1,hb⟩:=st2 HR0.out _ _ hW9;have HB9:=aH (hb w.heap.size w (by omega) HB0.out);clear hW9 hb;exact bodyPost_ret (v:= .tuple #[.agg #[.int .i64 x.term.place.loc,.slice A4 x.term.place.proj.length c4],.bool false,.bool false]) (by simp [results,Tryz.results93,go_sem,u0,u1]) rfl ⟨by rw [HP.out,HA.out];rfl,HB9.out⟩
 case pos=>
  obtain ⟨sb,so,hSA,hsb,hss⟩:=hs1.sl.at_ hks;obtain ⟨A0,c0,A,c,B,d,q0,q1,q2,q3,q4,q5,q6,q7,q8,q9,q10,hsp,-,-⟩:=iM hss;have hks2:(k:Int)<(x.stmts.length:Int):=by omega
  have hne:((k:Int) == (x.stmts.length:Int))=false:=by simp;omega
  have HP:Hid (wrP x k=if x.stmts[k].kind=0 then (x.stmts[k].place,true,true) else if x.stmts[k].kind=1 then (⟨x.stmts[k].loc,[]⟩,true,false) else (⟨0,[]⟩,false,false)):=aH (by unfold wrP;rw [bF hks])
  have HAA:Hid (wrA x k a0 (A4,c4)=if x.stmts[k].kind=0 then (A0,c0) else (none,0)):=aH (by
   have e0:a0=(A0,c0):=by
    have:=(h0 hks sb so hSA).1;rw [q2] at this;simp only [cK,Value.slice.injEq] at this;exact Prod.ext this.1.symm this.2.2.symm
   unfold wrA
   rw [bF hks,e0])
  clear h0;rw [hSA] at x0 hW0;rw [hSA];replace q0:=cQ HB0.out q0;replace q1:=cQ HB0.out q1;replace q2:=cQ HB0.out q2;replace q3:=cQ HB0.out q3;replace q4:=cQ HB0.out q4;replace q5:=cQ HB0.out q5;replace q6:=cQ HB0.out q6;replace q7:=cQ HB0.out q7;replace q8:=cQ HB0.out q8;replace q9:=cQ HB0.out q9;replace q10:=cQ HB0.out q10;clear hs1 hss hsp;obtain ⟨⟨pl,pj⟩,hpe⟩:∃p:Plc,x.stmts[k].place=p:=⟨_,rfl⟩;rw [hpe] at HP q1 q2;simp only at q1 q2;generalize x.stmts[k].kind=kd at *;generalize x.stmts[k].rv.kind=rk at *;generalize x.stmts[k].rv.op=op at *;generalize x.stmts[k].rv.reg=rg at *;generalize x.stmts[k].rv.mu=mu at *;generalize x.stmts[k].rv.place.loc=rl at *;generalize x.stmts[k].rv.place.proj.length=rn at *;generalize x.stmts[k].rv.args.length=an at *;generalize x.stmts[k].loc=lo at *;obtain ⟨n,hn⟩:∃n,pj.length=n:=⟨_,rfl⟩;rw [hn] at q2;obtain ⟨W1,hW1⟩:∃W1,W0.alloc (.cells ([Value.int .i64 kd,.int .i64 pl,.slice A0 n c0,.int .i64 rk,.int .i64 op,.int .i64 rg,.bool mu,.int .i64 rl,.slice A rn c,.slice B an d,.int .i64 lo]).toArray 111)=W1:=⟨_,rfl⟩;have hal1:=alF W0 (.cells ([Value.int .i64 kd,.int .i64 pl,.slice A0 n c0,.int .i64 rk,.int .i64 op,.int .i64 rg,.bool mu,.int .i64 rl,.slice A rn c,.slice B an d,.int .i64 lo]).toArray 111);have s:=cT W0 [Value.int .i64 kd,.int .i64 pl,.slice A0 n c0,.int .i64 rk,.int .i64 op,.int .i64 rg,.bool mu,.int .i64 rl,.slice A rn c,.slice B an d,.int .i64 lo] 111;rw [hW1] at hal1 s;rw [HSZ.out] at s;have s0:=s 0 _ rfl;have s1:=s 1 _ rfl;have s2:=s 2 _ rfl;have s10:=s 10 _ rfl;have HR1:Hid (W1.heap[w.heap.size+1]?=some (.cells #[.int .i64 0,.slice none 0 0] 36 (0,0))):=aH ((hal1.block _ (by rw [HSZ.out];omega)).trans HR0.out);have HB1:=aH (HB0.out.trans (hal1.mono HB0.out.size));have y0:W1.cell? ⟨w.heap.size+1,0,none⟩=some (.int .i64 0):=by simp [World.cell?,HR1.out]
  have y1:W1.cell? ⟨w.heap.size+1,1,none⟩=some (.slice none 0 0):=by simp [World.cell?,HR1.out]
  have yf:∀i,W1.frozen? ⟨w.heap.size+1,i,none⟩=false:=fun i=>by simp [World.frozen?,HR1.out]
  have hsz:=HSZ.out;clear s hal1 hpe;have HN:=aH hn;clear hn;by_cases h0:kd=0
  ·subst h0;have HF:Hid (wrP x k=(⟨pl,pj⟩,true,true)):=aH (by rw [HP.out,bD rfl]);have HA:Hid (wrA x k a0 (A4,c4)=(A0,c0)):=aH (by rw [HAA.out,bD rfl]);clear HP HAA;go_enter Tryz.func93,Tryz.ntmps93
   go_wp2_with fail
   generalize hW9:(W1.setCell ⟨w.heap.size+1,0,none⟩ (.int .i64 pl)).setCell ⟨w.heap.size+1,1,none⟩ (.slice A0 n c0)=W9;obtain ⟨u0,u1,hb⟩:=st2 HR1.out _ _ hW9;have HB9:=aH (hb w.heap.size w (by omega) HB1.out);clear hW9 hb;exact bodyPost_ret (v:= .tuple #[.agg #[.int .i64 pl,.slice A0 n c0],.bool true,.bool true]) (by simp [results,Tryz.results93,go_sem,u0,u1]) rfl ⟨by rw [HF.out,HA.out];unfold wrV;simp only;rw [HN.out],HB9.out⟩
  by_cases h1:kd=1
  ·subst h1;have HF:Hid (wrP x k=(⟨lo,[]⟩,true,false)):=aH (by rw [HP.out,bB (by decide),bD rfl]);have HA:Hid (wrA x k a0 (A4,c4)=(none,0)):=aH (by rw [HAA.out,bB (by decide)]);clear HP HAA;go_enter Tryz.func93,Tryz.ntmps93
   go_wp2_with fail
   generalize hW9:(W1.setCell ⟨w.heap.size+1,0,none⟩ (.int .i64 lo)).setCell ⟨w.heap.size+1,1,none⟩ (.slice none 0 0)=W9;obtain ⟨u0,u1,hb⟩:=st2 HR1.out _ _ hW9;have HB9:=aH (hb w.heap.size w (by omega) HB1.out);clear hW9 hb;exact bodyPost_ret (v:= .tuple #[.agg #[.int .i64 lo,.slice none 0 0],.bool true,.bool false]) (by simp [results,Tryz.results93,go_sem,u0,u1]) rfl ⟨by rw [HF.out,HA.out];rfl,HB9.out⟩
  ·have HF:Hid (wrP x k=(⟨0,[]⟩,false,false)):=aH (by rw [HP.out,bB h0,bB h1]);have t0:(kd == 0)=false:=by simp [h0]
   have t1:(kd == 1)=false:=by simp [h1]
   have HA:Hid (wrA x k a0 (A4,c4)=(none,0)):=aH (by rw [HAA.out,bB h0]);clear HP HAA;go_enter Tryz.func93,Tryz.ntmps93
   go_wp2_with fail
   generalize hW9:(W1.setCell ⟨w.heap.size+1,0,none⟩ (.int .i64 0)).setCell ⟨w.heap.size+1,1,none⟩ (.slice none 0 0)=W9;obtain ⟨u0,u1,hb⟩:=st2 HR1.out _ _ hW9;have HB9:=aH (hb w.heap.size w (by omega) HB1.out);clear hW9 hb;exact bodyPost_ret (v:= .tuple #[.agg #[.int .i64 0,.slice none 0 0],.bool false,.bool false]) (by simp [results,Tryz.results93,go_sem,u0,u1]) rfl ⟨by rw [HF.out,HA.out];rfl,HB9.out⟩
theorem xCY (x:Blk) (k:Nat) (l:Ln):kilB x k l=((wrP x k).2.2 && (isPre (wrP x k).1 l.place && hasD l.place.proj (wrP x k).1.proj.length)):=by
 unfold kilB wrP;cases x.stmts[k]? with
 | none=>
   simp only;by_cases h:x.term.kind=3
   ·simp [h,kilQ]
   ·simp [h]
 | some s=>
   simp only;by_cases h:s.kind=0
   ·simp [h,kilQ]
   ·by_cases h1:s.kind=1
    ·simp [h1]
    ·simp [h,h1]
end
section
open Go Go.RowKit
theorem tC (m k:Nat) (x y:Int) (n:Nat) (A B:Option Addr) (c d:Nat) (w:World) (h1:w.cell? ⟨n,1,none⟩=some (.slice A m c)) (h2:w.cell? ⟨n,2,none⟩=some (.slice B k d)):
 Calls Tryz.prog 154 #[.int .i64 x,.int .i64 y,.pointer (some ⟨n,0,none⟩)] w fun e' w'=>e' = .returned (.bool (decide ((m:Int)=x) && decide ((k:Int)=y)))/\w'=w:=by
 go_enter Tryz.func154,Tryz.ntmps154
 go_wp2_with fail
 all_goals
  go_ret;refine ⟨?_,rfl⟩;refine congrArg (fun b=>Ending.returned (Value.bool b)) ?_;clear h1 h2;grind
theorem qO (s:ByteArray):s.toList.isEmpty=decide (s.size=0):=by
 rw [bS,Lib.toList_data,List.isEmpty_iff,<- List.length_eq_zero_iff,decide_eq_true_eq];show s.data.toList.length=0↔s.data.size=0;rw [Array.length_toList]
theorem fF (t:Trm) (A B C:Option Addr) (c d f:Nat) (w:World):
 Calls Tryz.prog 120 #[.agg (tmC t A c B d C f).toArray] w fun e' w'=>e' = .returned (.bool (fieldsT t))/\Below w.heap.size w w':=by
 have HZ:=aH (fun W=>eN t.place C f W);obtain ⟨k,tg,args,pl,nm⟩:=t;simp only at HZ;unfold tmC;simp only;obtain ⟨m,hm⟩:∃m,tg.length=m:=⟨_,rfl⟩;obtain ⟨j,hj⟩:∃j,args.length=j:=⟨_,rfl⟩;have HQ:=aH (show fieldsT ⟨k,tg,args,pl,nm⟩=_ by unfold fieldsT;simp only;rw [hm,hj]);rw [hm,hj];generalize fieldsT ⟨k,tg,args,pl,nm⟩=q at HQ ⊢;generalize zeroP pl=z at HZ HQ;clear hm hj;have hmf:∀(fn:Fn) (first cap:Array Value) (w:World),(Instr.makeFunc fn first cap).run Tryz.prog w = .ok (.func fn first cap) w:=fun _ _ _ _=>rfl
 go_enter Tryz.func120,Tryz.ntmps120
 go_wp2_with (first | (go_at_call 117;refine (HZ.out _).mono ?_;rintro e' w1 ⟨rfl,hb1⟩;have y:=cV (cT w _ _) hb1;obtain ⟨y0,y1,y2,y3,y4,y5⟩:=aT y;clear y) | (go_at_call 154;refine (tC m j _ _ _ A B c d _ (cT w _ _ 1 _ rfl) (cT w _ _ 2 _ rfl)).mono ?_;rintro e' _ ⟨rfl,rfl⟩))
 all_goals
  go_ret;refine ⟨?_,by first | exact ((aZ _ _).alloc (bA _) _).trans (hb1.mono (by simp)) | exact aJ⟩;have HF:=HQ.out;try clear y0 y1 y2 y3 y4 y5
  try clear hb1
  clear HQ HZ hmf;rw [HF];first | refine congrArg (fun b=>Ending.returned (Value.bool b)) ?_ | (refine congrArg Ending.returned ?_)
  have hn:=qO nm;try rw [hn]
  clear hn;generalize decide (nm.size=0)=u;by_cases g1:m=1 <;> by_cases g2:m=2 <;> by_cases g3:j=1 <;> grind
end
end Go.Proofs.YtkaigkfbkpinlaaGreatDoor
