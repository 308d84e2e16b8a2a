/-
  Parts of the proof: V15 V16 V17 V20 V21 V22 V45 V29 V30.
-/
import Derived.Test.YtbnljlpefpllcaaGreatDoorME0
import Derived.Test.YtbnljlpefpllcaaGreatDoorME7
import Derived.Test.YtbnljlpefpllcaaGreatDoorME8
import Derived.Test.YtbnljlpefpllcaaGreatDoorME6
import Derived.Deep.LoopGhost
namespace Go.Proofs.YtbnljlpefpllcaaGreatDoor
set_option maxRecDepth 100000
set_option maxHeartbeats 16000000
section
open Go Go.RowKit Go.Maps
def relL (pairs:List (Int × Int)) (s:Bool) (x:Int):List Int:=if s=true then (pairs.filter (fun p=>decide (p.2=x))).map (·.1) else (pairs.filter (fun p=>decide (p.1=x))).map (·.2)
theorem yC (l:List (Int × Int)) (p:Int × Int):relL (l ++ [p])=updL (updL (relL l) false p.1 (relL l false p.1 ++ [p.2])) true p.2 (relL l true p.2 ++ [p.1]):=by
 funext s x
 cases s
 ·simp only [relL,updL,Bool.false_eq_true,if_false,false_and,true_and,List.filter_append,bS]
  by_cases h:x=p.1
  ·subst h
   simp
  ·have:¬p.1=x:=fun e=>h e.symm
   simp [h,this]
 ·simp only [relL,updL,if_true,true_and,List.filter_append,bS]
  by_cases h:x=p.2
  ·subst h
   simp
  ·have:¬p.2=x:=fun e=>h e.symm
   simp [h,this]
theorem oG (l:List (Int × Int)) (s:Bool) (x:Int):(relL l s x).length≤l.length:=by
 unfold relL
 split <;> (rw [cF];exact List.length_filter_le _ _)
theorem mO {n:Int}:∀(l:List (Int × Int)) (q:Option (Int × Int)),pairsE n q l=0→∀p∈l,0≤p.1∧p.1<n∧0≤p.2∧p.2<n
 | [],_,_,p,hp=>by simp at hp
 | x :: r,q,h,p,hp=>by
   rw [iK] at h
   by_cases h0:pairE n q x=0
   ·rw [aY h0] at h
    rcases List.mem_cons.1 hp with rfl | hp
    ·unfold pairE at h0
     split at h0
     ·cases h0
     ·omega
    ·exact mO r _ h p hp
   ·rw [aX h0] at h
    exact absurd h h0
theorem mQ {n:Int} {l:List (Int × Int)} (h:pairsC n l=0):l.length≤65535∧∀p∈l,0≤p.1∧p.1<n∧0≤p.2∧p.2<n:=by
 unfold pairsC at h
 split at h
 ·cases h
 ·exact ⟨by omega,mO l _ h⟩
theorem dV {X W:World} {k:Nat} (h:X.heap[k]?=W.heap[k]?) (i:Nat):X.cell? ⟨k,i,none⟩=W.cell? ⟨k,i,none⟩:=by
 simp only [World.cell?,h]
theorem xD {w:World} {k:Nat} {a b:Value} {t:TypeId} (h:w.heap[k]?=some (.cells #[a,b] t)):w.cell? ⟨k,0,none⟩=some a∧w.cell? ⟨k,1,none⟩=some b:=by
 simp [World.cell?,h]
theorem kO {w:World} {k:Nat} {a b c:Value} {t:TypeId} (h:w.heap[k]?=some (.cells #[a,b,c] t)):w.cell? ⟨k,0,none⟩=some a∧w.cell? ⟨k,1,none⟩=some b∧w.cell? ⟨k,2,none⟩=some c:=by
 simp [World.cell?,h]
theorem uO (X:World) (o:Obj) (k:Nat) (hk:k=X.heap.size):(X.alloc o).heap[k]?=some o:=by
 subst hk
 exact Array.getElem?_push_size
def mapsAt (k:Nat) (s:Bool):Nat:=if s=true then k+1 else k
theorem pB {P:Program} {o:Oper} {a:Act} {w:World} {K:Act→World→Prop} {Q:Exit→Act→World→Prop} (m x v:Operand) (t:TypeId) (ho:o.op = .mapUpdate t m x v) {b:Nat} {key val:Value} (hm:a.eval m = .map (some b)) (hx:a.eval x=key) (hv:a.eval v=val)
 {w':World} (hrun:(Instr.mapUpdate t (.map (some b)) key val).run P w = .ok () w') (h:K (a.put o.dst undef) w'):o.wp P a w K Q:=by
 unfold Oper.wp
 simp [execOp,ho,hm,hx,hv,hrun,Result.andThen]
 exact h
end
section
open Go Go.RowKit
inductive Rch (pairs:List (Int × Int)):Int→Int→Prop
 | refl (a:Int):Rch pairs a a
 | step {a x y:Int}:Rch pairs a x→(x,y)∈pairs→Rch pairs a y
theorem Rch.trans {pairs:List (Int × Int)} {a b c:Int} (h:Rch pairs a b) (h2:Rch pairs b c):Rch pairs a c:=by
 induction h2 with
 | refl=>exact h
 | step _ hp ih=>exact .step ih hp
theorem Rch.one {pairs:List (Int × Int)} {x y:Int} (h:(x,y)∈pairs):Rch pairs x y:= .step (.refl x) h
theorem Rch.closed {pairs:List (Int × Int)} {S:Int→Prop} (hc:∀x y,S x→(x,y)∈pairs→S y) {a b:Int} (h:Rch pairs a b) (ha:S a):S b:=by
 induction h with
 | refl=>exact ha
 | step _ hp ih=>exact hc _ _ ih hp
theorem fE:∀(n:Nat) (l:List Int),l.Nodup→(∀x∈l,0≤x∧x<n)→l.length≤n
 | 0,l,_,h=>by
   cases l with
   | nil=>simp
   | cons x r=>have:=h x (by simp);omega
 | n+1,l,hn,h=>by
   have h1:=fE n (l.erase (n:Int)) (hn.erase _) (fun x hx=>by
    have hm:=(hn.mem_erase_iff).1 hx
    have:=h x hm.2
    have:=hm.1
    omega)
   rw [List.length_erase] at h1
   split at h1 <;> omega
theorem wD (pairs:List (Int × Int)) (x:Int):∀(set:List Int),∃new,nextR pairs x set=set ++ new∧(∀y∈new,(x,y)∈pairs)∧(set.Nodup→(set ++ new).Nodup)∧∀y,(x,y)∈pairs→y∈set ++ new:=by
 unfold nextR
 induction pairs with
 | nil=>exact fun set=>⟨[],by simp,by simp,by simp,by simp⟩
 | cons p r ih=>
   intro set
   obtain ⟨p1,p2⟩:=p
   rw [List.foldl_cons]
   by_cases hp:p1=x∧p2∉set
   ·rw [aY hp]
    obtain ⟨new,h1,h2,h3,h4⟩:=ih (set ++ [p2])
    refine ⟨p2 :: new,by rw [h1];simp,?_,?_,?_⟩
    ·intro y hy
     rcases List.mem_cons.1 hy with rfl | hy
     ·rw [← hp.1];exact List.mem_cons_self
     ·exact List.mem_cons_of_mem _ (h2 y hy)
    ·intro hn
     have:(set ++ [p2]).Nodup:=by
      rw [List.nodup_append]
      refine ⟨hn,by simp,fun a ha b hb=>?_⟩
      rw [bR] at hb
      subst hb
      exact fun e=>hp.2 (e ▸ ha)
     have:=h3 this
     simpa using this
    ·intro y hy
     rcases List.mem_cons.1 hy with he | hy
     ·injection he with _ he
      subst he
      simp
     ·have:=h4 y hy
      simpa using this
   ·rw [aX hp]
    obtain ⟨new,h1,h2,h3,h4⟩:=ih set
    refine ⟨new,h1,fun y hy=>List.mem_cons_of_mem _ (h2 y hy),h3,fun y hy=>?_⟩
    rcases List.mem_cons.1 hy with he | hy
    ·injection he with e1 e2
     subst e1 e2
     by_cases hm:y∈set
     ·exact List.mem_append_left _ hm
     ·exact absurd ⟨rfl,hm⟩ hp
    ·exact h4 y hy
theorem qM {pairs:List (Int × Int)} {n:Nat} (hr:∀p∈pairs,0≤p.1∧p.1<(n:Int)∧0≤p.2∧p.2<(n:Int)) (b:Int):∀(f:Nat) (set:List Int) (i:Nat),(∀x∈set,0≤x∧x<(n:Int))→set.Nodup→i≤set.length→n<f+i→
 (∀j x y,j<i→set[j]?=some x→(x,y)∈pairs→y∈set)→(∀j x,j<i→set[j]?=some x→x≠b)→(outF pairs b f set i=true↔∃z∈set,Rch pairs z b)
 | 0,set,i,h1,h2,h3,h4,_,_=>by
   have:=fE n set h2 h1
   omega
 | f+1,set,i,h1,h2,h3,h4,h5,h6=>by
   rw [outF]
   cases hx:set[i]? with
   | none=>
     have hi:set.length≤i:=by simpa using hx
     constructor
     ·intro h;cases h
     ·rintro ⟨z,hz,hzb⟩
      have hb:b∈set:=Rch.closed (S:=fun x=>x∈set) (fun x y hxm hp=>by
       obtain ⟨j,hj,he⟩:=List.mem_iff_getElem.1 hxm
       exact h5 j x y (by omega) (by rw [bB hj,he]) hp) hzb hz
      obtain ⟨j,hj,he⟩:=List.mem_iff_getElem.1 hb
      exact absurd rfl (h6 j b (by omega) (by rw [bB hj,he]))
   | some x=>
     have hxm:x∈set:=List.mem_of_getElem? hx
     simp only
     by_cases hxb:x=b
     ·rw [aY hxb]
      subst hxb
      exact ⟨fun _=>⟨x,hxm,.refl x⟩,fun _=>rfl⟩
     ·rw [aX hxb]
      obtain ⟨new,n1,n2,n3,n4⟩:=wD pairs x set
      rw [n1]
      have hi:i<set.length:=(List.getElem?_eq_some_iff.1 hx).1
      have hold:∀j u,j<set.length→((set ++ new)[j]?=some u↔set[j]?=some u):=fun j u hj=>by rw [List.getElem?_append_left hj]
      have g1:∀y∈set ++ new,0≤y∧y<(n:Int):=fun y hy=>by
       rcases List.mem_append.1 hy with hy | hy
       ·exact h1 y hy
       ·have:=hr _ (n2 y hy)
        exact ⟨this.2.2.1,this.2.2.2⟩
      have g2:∀j u y,j<i+1→(set ++ new)[j]?=some u→(u,y)∈pairs→y∈set ++ new:=by
       intro j u y hj hu hp
       rw [hold j u (by omega)] at hu
       rcases Nat.lt_or_ge j i with hji | hji
       ·exact List.mem_append_left _ (h5 j u y hji hu hp)
       ·have:j=i:=by omega
        subst this
        rw [hx] at hu
        injection hu with hu
        subst hu
        exact n4 y hp
      have g3:∀j u,j<i+1→(set ++ new)[j]?=some u→u≠b:=by
       intro j u hj hu
       rw [hold j u (by omega)] at hu
       rcases Nat.lt_or_ge j i with hji | hji
       ·exact h6 j u hji hu
       ·have:j=i:=by omega
        subst this
        rw [hx] at hu
        injection hu with hu
        subst hu
        exact hxb
      rw [qM hr b f (set ++ new) (i+1) g1 (n3 h2) (by rw [aZ];omega) (by omega) g2 g3]
      constructor
      ·rintro ⟨z,hz,hzb⟩
       rcases List.mem_append.1 hz with hz | hz
       ·exact ⟨z,hz,hzb⟩
       ·exact ⟨x,hxm,(Rch.one (n2 z hz)).trans hzb⟩
      ·rintro ⟨z,hz,hzb⟩
       exact ⟨z,List.mem_append_left _ hz,hzb⟩
theorem xCV {pairs:List (Int × Int)} {n:Nat} (hr:∀p∈pairs,0≤p.1∧p.1<(n:Int)∧0≤p.2∧p.2<(n:Int)) {a b:Int} (ha:0≤a) (ha2:a<n) (hb:0≤b) (hb2:b<n):
 outB pairs n a b=true↔Rch pairs a b:=by
 unfold outB
 rw [aX (by omega)]
 rw [qM hr b _ [a] 0 (by simp;omega) (by simp) (by simp) (by simp) (by intro j x y hj;omega) (by intro j x hj;omega)]
 simp
end
section
open Go Go.RowKit Go.Maps
theorem sJ (r:Nat) (n a:Int) (w:World) (x0:w.cell? ⟨r,0,none⟩=some (.int .i64 n)):
 Calls Tryz.prog 229 #[.pointer (some ⟨r,0,none⟩),.int .i64 a] w fun e' w'=>e' = .returned (.bool (decide (0≤a) && decide (a<n)))∧w'=w:=by
 obtain ⟨q,hq⟩:∃q,(decide (0≤a) && decide (a<n))=q:=⟨_,rfl⟩
 rw [hq]
 have HQ:=aF hq
 clear hq
 go_enter Tryz.func229,Tryz.ntmps229
 go_wp2_with fail
 all_goals
  go_ret
  refine ⟨?_,rfl⟩
  rw [← HQ.out]
  first
   | (simp_all;done)
   | (simp_all;omega)
structure Bfs (pairs:List (Int × Int)) (n:Nat) (a b:Int) (sl qs:List Int) (ex:Int→Prop):Prop where
 nd:sl.Nodup
 rng:∀x∈sl,0≤x∧x<(n:Int)
 rch:∀x∈sl,Rch pairs a x
 sub:∀x∈qs,x∈sl
 cls:∀x∈sl,x∉qs→¬ex x→∀y,(x,y)∈pairs→y∈sl
 tgt:b∈sl→b=a
 hd:a∈sl
theorem Bfs.start {pairs:List (Int × Int)} {n:Nat} {a b:Int} (h0:0≤a) (h1:a<n):Bfs pairs n a b [a] [a] (fun _=>False):=
 ⟨by simp,by simp;omega,fun x hx=>by rw [bR] at hx;subst hx;exact .refl x,fun x hx=>hx,fun x hx hq=>absurd hx hq,fun h=>by simpa using h,by simp⟩
theorem Bfs.pop {pairs:List (Int × Int)} {n:Nat} {a b x:Int} {sl qs:List Int} (h:Bfs pairs n a b sl (x :: qs) (fun _=>False)):Bfs pairs n a b sl qs (fun u=>u=x):=
 ⟨h.nd,h.rng,h.rch,fun y hy=>h.sub y (by simp [hy]),fun y hy hq hne=>h.cls y hy (by simp only [List.mem_cons,not_or];exact ⟨hne,hq⟩) (fun f=>f),h.tgt,h.hd⟩
theorem Bfs.push {pairs:List (Int × Int)} {n:Nat} {a b x y:Int} {sl qs:List Int} (h:Bfs pairs n a b sl qs (fun u=>u=x)) (hx:x∈sl) (hr:∀p∈pairs,0≤p.1∧p.1<(n:Int)∧0≤p.2∧p.2<(n:Int)) (hp:(x,y)∈pairs) (hy:y∉sl) (hb:y≠b):
 Bfs pairs n a b (y :: sl) (qs ++ [y]) (fun u=>u=x):=by
 refine ⟨List.nodup_cons.2 ⟨hy,h.nd⟩,?_,?_,?_,?_,?_,by simp [h.hd]⟩
 ·intro u hu
  rcases List.mem_cons.1 hu with rfl | hu
  ·have:=hr _ hp;exact ⟨this.2.2.1,this.2.2.2⟩
  ·exact h.rng u hu
 ·intro u hu
  rcases List.mem_cons.1 hu with rfl | hu
  ·exact .step (h.rch x hx) hp
  ·exact h.rch u hu
 ·intro u hu
  rcases List.mem_append.1 hu with hu | hu
  ·exact List.mem_cons_of_mem _ (h.sub u hu)
  ·rw [bR] at hu;subst hu;simp
 ·intro u hu hq hne z hz
  simp only [List.mem_append,bR,not_or] at hq
  rcases List.mem_cons.1 hu with rfl | hu
  ·exact absurd rfl hq.2
  ·exact List.mem_cons_of_mem _ (h.cls u hu hq.1 hne z hz)
 ·intro hbs
  rcases List.mem_cons.1 hbs with e | hbs
  ·exact absurd e.symm hb
  ·exact h.tgt hbs
theorem Bfs.close {pairs:List (Int × Int)} {n:Nat} {a b x:Int} {sl qs:List Int} (h:Bfs pairs n a b sl qs (fun u=>u=x)) (hx:∀y,(x,y)∈pairs→y∈sl):Bfs pairs n a b sl qs (fun _=>False):=
 ⟨h.nd,h.rng,h.rch,h.sub,fun u hu hq _ y hy=>by
   by_cases e:u=x
   ·subst e;exact hx y hy
   ·exact h.cls u hu hq e y hy,h.tgt,h.hd⟩
theorem Bfs.done {pairs:List (Int × Int)} {n:Nat} {a b:Int} {sl:List Int} (h:Bfs pairs n a b sl [] (fun _=>False)):b∈sl↔Rch pairs a b:=
 ⟨h.rch b,fun hr=>hr.closed (S:=fun u=>u∈sl) (fun x y hx hp=>h.cls x hx (by simp) (fun f=>f) y hp) h.hd⟩
theorem Bfs.len {pairs:List (Int × Int)} {n:Nat} {a b:Int} {sl qs:List Int} {ex:Int→Prop} (h:Bfs pairs n a b sl qs ex):sl.length≤n:=fE n sl h.nd h.rng
theorem xCG {pairs:List (Int × Int)} {x y:Int}:y∈relL pairs false x↔(x,y)∈pairs:=by
 simp only [relL,Bool.false_eq_true,if_false,List.mem_map,List.mem_filter,decide_eq_true_eq]
 constructor
 ·rintro ⟨⟨p,q⟩,⟨h1,h2⟩,h3⟩
  simp only at h2 h3
  subst h2 h3
  exact h1
 ·intro h
  exact ⟨(x,y),⟨h,rfl⟩,rfl⟩
def inF (sl:List Int):Int→Bool:=fun x=>decide (x∈sl)
def i64F (g:Int→Bool):Lit→Bool
 | .int .i64 n=>g n
 | _=>false
theorem lN (sl:List Int) (y:Int):i64F (inF (y :: sl)) (.int .i64 y)=true:=by simp [i64F,inF]
theorem oQ (sl:List Int) (y:Int):∀k,k≠Lit.int .i64 y→i64F (inF (y :: sl)) k=i64F (inF sl) k:=by
 intro k hk
 cases k <;> try rfl
 rename_i q n
 cases q <;> try rfl
 have:n≠y:=fun e=>hk (by rw [e])
 simp [i64F,inF,this]
theorem zE:i64F (inF [])=fun _=>false:=by
 funext k
 cases k <;> try rfl
 rename_i q n
 cases q <;> rfl
theorem iC:∀w,(zeroValue 4).run Tryz.prog w = .ok (.bool false) w:=Tryz.zeroValue4
theorem kE (pairs:List (Int × Int)) (n:Nat) (a b:Int) (r:Nat) (w:World) (hR:Rel3 w r n (relL pairs)) (hr:∀p∈pairs,0≤p.1∧p.1<(n:Int)∧0≤p.2∧p.2<(n:Int)) (hn:n≤65536) (_hl:pairs.length≤65535):
 Calls Tryz.prog 214 #[.pointer (some ⟨r,0,none⟩),.int .i64 a,.int .i64 b] w fun e' w'=>e' = .returned (.bool (outB pairs n a b))∧Below w.heap.size w w':=by
 obtain ⟨M,hM,hLK⟩:=hR
 obtain ⟨x0,x1,x2⟩:=kO hM
 have HX0:=aF x0
 by_cases hab:0≤a∧a<(n:Int)∧0≤b∧b<(n:Int)
 case neg=>
  have HF:Hid (outB pairs n a b=false):=aF (by unfold outB;rw [aY (by omega)])
  rw [HF.out]
  clear hLK hM
  by_cases ha:0≤a∧a<(n:Int)
  ·have e1:(decide (0≤a) && decide (a<(n:Int)))=true:=by simp [ha]
   have e2:(decide (0≤b) && decide (b<(n:Int)))=false:=by simp;omega
   have E1:=aF e1
   have E2:=aF e2
   clear e1 e2 ha hab
   go_enter Tryz.func214,Tryz.ntmps214
   go_wp2_with fail
   go_step3
   go_wp2_with (go_at_call 229;refine (sJ r n _ w HX0.out).mono ?_;rintro e' w1 ⟨rfl,hw⟩;obtain rfl:=hw.symm;first | rw [E1.out] | rw [E2.out])
   rw [Exit.noGoto_ret]
   go_ret
   exact ⟨rfl,aV _ _⟩
  ·have e1:(decide (0≤a) && decide (a<(n:Int)))=false:=by simp;omega
   have E1:=aF e1
   clear e1 ha hab
   go_enter Tryz.func214,Tryz.ntmps214
   go_wp2_with fail
   go_step3
   go_wp2_with (go_at_call 229;refine (sJ r n _ w HX0.out).mono ?_;rintro e' w1 ⟨rfl,hw⟩;obtain rfl:=hw.symm;rw [E1.out])
   rw [Exit.noGoto_ret]
   go_ret
   exact ⟨rfl,aV _ _⟩
 case pos=>
  obtain ⟨ha0,ha1,hb0,hb1⟩:=hab
  have HQ:=aF (xCV hr ha0 ha1 hb0 hb1)
  generalize outB pairs n a b=q at HQ ⊢
  have e1:(decide (0≤a) && decide (a<(n:Int)))=true:=by simp [ha0,ha1]
  have e2:(decide (0≤b) && decide (b<(n:Int)))=true:=by simp [hb0,hb1]
  have E1:=aF e1
  have E2:=aF e2
  have HLK:=aF hLK
  have HM:=aF hM
  have keya:=key3 (a:=a) ha0 (by omega)
  obtain ⟨i0,hi,hz0,hz1,hz2⟩:=info_parts eE
  have hmm:= @run_makeMap Tryz.prog
  clear e1 e2 hLK hM
  have hmade:=OwnB.made w Tryz.prog 3 4
  rw [← zE] at hmade
  obtain ⟨w0,hrun0,hown0,hg0⟩:=hmade.store law3 Tryz.underlying284 Tryz.underlying4 (by unfold maxLen;omega) keya trivial true (lN [] a) (oQ [] a)
  have hB0:Below w.heap.size w w0:=((aV _ _).alloc (aW _) _).trans (eP hg0 (aW _) (by simp))
  have hs0:w.heap.size+1≤w0.heap.size:=by have:=hg0.size;simpa using this
  have HOWN0:=aF hown0
  have HB0:=aF hB0
  clear hmade hown0 hg0 hB0
  go_enter Tryz.func214,Tryz.ntmps214
  go_wp2_with fail
  go_step3
  go_wp2_with (first
   | (go_at_call 229;refine (sJ r n _ w HX0.out).mono ?_;rintro e' w1 ⟨rfl,hw⟩;obtain rfl:=hw.symm;first | rw [E1.out] | rw [E2.out])
   | fail)
  go_step3
  go_wp2_with fail
  have keyb:=key3 (a:=b) hb0 (by omega)
  have HBF0:=aF (Bfs.start (pairs:=pairs) (b:=b) ha0 ha1)
  have HQ0:=aF (Qu.one w0 (w.heap.size+1) 3 (.int .i64 a) w0.heap.size rfl hs0)
  go_loopg [8] (2 * (n - 1)+1) (fun gk v wr=>∃(sl qs:List Int),gk=2 * (n - sl.length)+qs.length∧gk≤2 * n+1∧Hid (Bfs pairs n a b sl qs (fun _=>False))∧Hid (Qu wr (w.heap.size+1) 3 v (qs.map (Value.int .i64)))∧Hid (OwnB Tryz.prog 3 4 wr w.heap.size sl.length (i64F (inF sl)))∧Hid (Below w.heap.size w wr)∧w.heap.size+1≤wr.heap.size)
  case atStart=>exact ⟨[a],[a],by simp,by omega,HBF0,HQ0,aF (HOWN0.out.alloc _),aF (HB0.out.alloc HB0.out.size _),by simp;omega⟩
  case round=>
   clear HBF0 HQ0 HOWN0 HB0 hrun0
   obtain ⟨sl,qs,hgk,hgk2,HBF,HQU,HOWN,HBL,hsz⟩:=hrel
   cases qs with
   | nil=>
     obtain ⟨A,c,rfl,hc1,hc2⟩:=HQU.out.slice
     have HFIN:Hid (decide (b∈sl)=q):=aF (by
      rw [bQ,decide_eq_true_eq,HBF.out.done]
      exact HQ.out.symm)
     have hlk:=HOWN.out.look law3 Tryz.underlying284 Tryz.underlying4 (iC _) keyb
     simp only [i64F,inF] at hlk
     rw [HFIN.out] at hlk
     simp only [cM,bO] at hc1 hc2 ⊢
     clear HQU HOWN HBF
     go_wp2_with fail
     rw [Exit.noGoto_ret]
     go_ret
     exact ⟨rfl,HBL.out⟩
   | cons x qs=>
     obtain ⟨A,c,rfl,hc1,hc2⟩:=HQU.out.slice
     obtain ⟨g,p,rfl,hlen,hle,hbig,y0,hq2⟩:=HQU.out.tail
     have hbf:=HBF.out.pop
     have hx:=HBF.out.sub x (by simp)
     have hxr:=HBF.out.rng x hx
     have hlen0:=HBF.out.len
     have keyx:=key3 (a:=x) hxr.1 (by omega)
     obtain ⟨A2,c2,hlk,hsl⟩:=HLK.out false x hxr.1 (by omega)
     have hlkr:=hlk wr HBL.out
     have hys:=aF (oG pairs false x)
     have HMEM:=aF (fun y=> @xCG pairs x y)
     have hle2:=hsl.le
     have hbig2:=hsl.big
     have HSL:=aF hsl
     have HBF2:=aF hbf
     have HXM:=aF hx
     have hcut:=rL (P:=Tryz.prog) 51 3 (some ⟨g,p,none⟩) (qs.length+1) c 1 1 Tryz.underlying51 Tryz.sizeOf3 (by omega)
     simp only [cK,bJ,cF] at hq2 hle hgk hc1 ⊢
     have HQ2:Hid (Qu wr (w.heap.size+1) 3 (.slice (cutA (some ⟨g,p,none⟩) c 1 1) (qs.length+1 - 1) (c - 1)) (qs.map (Value.int .i64))):=aF hq2
     obtain ⟨v2,hv2⟩:∃v2,Value.slice (cutA (some ⟨g,p,none⟩) c 1 1) (qs.length+1 - 1) (c - 1)=v2:=⟨_,rfl⟩
     rw [hv2] at HQ2 hcut
     have hidx0:∀(W:World) (A0:Option Addr),A0=some ⟨g,p,none⟩→(Instr.indexAt 51 (.slice A0 (qs.length+1) c) (.int .i64 0)).run Tryz.prog W = .ok (.pointer (some ⟨g,p,none⟩)) W:=fun W A0 h=>by
      subst h
      go_simp
     obtain ⟨AA,hAA⟩:∃AA,some (⟨g,p,none⟩:Addr)=AA:=⟨_,rfl⟩
     have hidx:=fun W=>hidx0 W AA hAA.symm
     rw [hAA] at hcut ⊢
     have hcut1:∀W,(Instr.slice 51 (.slice AA (qs.length+1) c) (some (.int .i64 1)) none none).run Tryz.prog W = .ok v2 W:=fun W=>hcut W
     clear hAA hidx0 hcut
     have z1:wr.cell? ⟨r,1,none⟩=some (.map (some (M false))):=(HBL.out.cell (p:=⟨r,1,none⟩) (cD _ _ x1)).trans x1
     clear hbf hx hxr hlk hsl hq2 HBF hv2
     generalize relL pairs false x=ys at *
     go_wp2_with fail
     go_loopg [8,42] ys.length (fun gj v i wr2=>∃(sl2 qs2:List Int) (k:Nat),gj=ys.length - k∧k≤ys.length∧i = .int .i64 k∧2 * (n - sl2.length)+qs2.length≤2 * (n - sl.length)+qs.length∧Hid (Bfs pairs n a b sl2 qs2 (fun u=>u=x))∧Hid (x∈sl2)∧Hid (Qu wr2 (w.heap.size+1) 3 v (qs2.map (Value.int .i64)))∧Hid (OwnB Tryz.prog 3 4 wr2 w.heap.size sl2.length (i64F (inF sl2)))∧Hid (Below w.heap.size w wr2)∧w.heap.size+1≤wr2.heap.size∧Hid (∀j y,j<k→ys[j]?=some y→y∈sl2))
     case atStart=>exact ⟨sl,qs,0,by omega,by omega,rfl,aW _,HBF2,HXM,HQ2,HOWN,HBL,hsz,aF (fun j y hj=>absurd hj (by omega))⟩
     case round=>
      clear HBF2 HXM HQ2 HOWN HBL hcut1 hlkr z1 y0 hidx
      obtain ⟨sl2,qs2,k,hgj,hk,rfl,hms,HBF,HXM,HQU,HOWN,HBL,hsz2,HDN⟩:=hrel
      by_cases hlt:k<ys.length
      ·have hb2:=HBL.out
       obtain ⟨g2,o2,rfl,hb2',hy⟩:=(HSL.out.keep RInt.keeps hb2).sl.at_ hlt
       have HXY:=aF ((HMEM.out ys[k]).1 (bM hlt))
       have HDN2:Hid (∀sl3:List Int,(∀u∈sl2,u∈sl3)→ys[k]∈sl3→∀j y,j<k+1→ys[j]?=some y→y∈sl3):=aF (fun sl3 h1 h2 j y hj hyj=>by
        rcases Nat.lt_or_ge j k with hjk | hjk
        ·exact h1 y (HDN.out j y hjk hyj)
        ·have:j=k:=by omega
         rw [this,bB hlt] at hyj
         injection hyj with hyj
         rw [← hyj]
         exact h2)
       obtain ⟨y,hyy⟩:∃y,ys[k]=y:=⟨_,rfl⟩
       rw [hyy] at hy HXY HDN2
       have y0:wr.cell? ⟨g2,o2+k,none⟩=some (.int .i64 y):=by simpa [RInt] using hy
       have hyr:=hr _ HXY.out
       simp only at hyr
       have keyy:=key3 (a:=y) hyr.2.2.1 (by omega)
       have hown:=HOWN.out
       have hlen2:=HBF.out.len
       clear hy hyy hyr HDN
       by_cases hyb:y=b
       ·have HF:Hid (q=true):=aF (HQ.out.2 (hyb ▸ Rch.step (HBF.out.rch x HXM.out) HXY.out))
        subst hyb
        clear HQU HBF HOWN
        go_wp2_with (first
         | (at_mapUpdate;refine eS _ rfl _ _ _ 284 rfl 3 4 law3 Tryz.underlying284 Tryz.underlying4 _ _ _ rfl hown (by unfold maxLen;omega) _ _ _ rfl rfl keyy trivial _ (lN sl2 y) (oQ sl2 y) ?_;intro w3 hown3 hg3)
         | (at_lookup;refine dI _ rfl _ _ 284 rfl 3 4 law3 Tryz.underlying284 Tryz.underlying4 (iC _) _ _ _ rfl hown3 _ _ rfl keyy ?_;rw [lN]))
        rw [Exit.noGoto_ret]
        go_ret
        exact ⟨by rw [HF.out];rfl,HBL.out.trans (eP hg3 (aW _) (by omega) |>.mono (aW _))⟩
       ·have e3:(y == b)=false:=by simp [hyb]
        have HYB:=aF hyb
        clear hyb
        by_cases hm:y∈sl2
        ·have HM2:=aF hm
         have HFB:Hid (i64F (inF sl2) (.int .i64 y)=true):=aF (by simp [i64F,inF,hm])
         clear hm
         go_wp2_with (at_lookup;refine dI _ rfl _ _ 284 rfl 3 4 law3 Tryz.underlying284 Tryz.underlying4 (iC _) _ _ _ rfl hown _ _ rfl keyy ?_;rw [HFB.out])
         go_roundg (ys.length - (k+1))
         case measure=>omega
         case rel=>exact ⟨sl2,qs2,k+1,rfl,by omega,by go_num,hms,HBF,HXM,HQU,HOWN,HBL,hsz2,aF (HDN2.out sl2 (fun u h=>h) HM2.out)⟩
        ·have HM2:=aF hm
         have HFB:Hid (i64F (inF sl2) (.int .i64 y)=false):=aF (by simp [i64F,inF,hm])
         have HBF3:=aF (HBF.out.push HXM.out hr HXY.out hm HYB.out)
         have hlen3:=HBF3.out.len
         simp only [bJ] at hlen3
         clear hm
         go_wp2_with (first
          | (at_lookup;refine dI _ rfl _ _ 284 rfl 3 4 law3 Tryz.underlying284 Tryz.underlying4 (iC _) _ _ _ rfl hown _ _ rfl keyy ?_;rw [HFB.out])
          | (at_mapUpdate;refine eS _ rfl _ _ _ 284 rfl 3 4 law3 Tryz.underlying284 Tryz.underlying4 _ _ _ rfl hown (by unfold maxLen;omega) _ _ _ rfl rfl keyy trivial _ (lN sl2 y) (oQ sl2 y) ?_;intro w3 hown3 hg3)
          | (at_builtin;refine lY _ rfl _ _ 51 rfl (w.heap.size+1) 3 i0 (.int .i64 0) Tryz.underlying51 hi hz0 hz1 (by omega) rfl _ _ rfl ((HQU.out.block (fun k hk=>hg3.block k (HQU.out.lt k hk).2 (by have:=(HQU.out.lt k hk).1;simp;omega))).below ((aV _ _).alloc (aW _) _)) ⟨_,0,none⟩ 1 (.int .i64 y) rfl (eM w3 _ _ _ rfl 0 _ rfl) rfl (by rw [cF];omega) (by have:=hg3.size;simp;omega) ?_;intro v4 w4 hq4 hg4))
         have hs3:=hg3.size
         have hs4:=hg4.size
         simp only [bH] at hs4
         have hrow:∀j,u8.ownBlock=some j→w.heap.size+1≤j:=fun j hj=>(HQU.out.lt j hj).1
         have hB3:Below w.heap.size w (w3.alloc (.cells #[.int .i64 y] 3)):=(HBL.out.trans (eP hg3 (aW _) (by omega))).alloc (by omega) _
         have HB4:=aF (hB3.grown hg4 (by simp;omega) (fun j hj=>by have:=hrow j hj;omega))
         have HO4:=aF ((hown3.alloc _).block (hg4.block _ (by simp;omega) (fun e=>by have:=hrow _ e.symm;omega)))
         go_roundg (ys.length - (k+1))
         case measure=>omega
         case rel=>exact ⟨y :: sl2,qs2 ++ [y],k+1,rfl,by omega,by go_num,by simp only [bJ,aZ,bO];omega,HBF3,aF (List.mem_cons_of_mem _ HXM.out),aF (by rw [bS];exact hq4),HO4,HB4,by omega,aF (HDN2.out (y :: sl2) (fun u h=>List.mem_cons_of_mem _ h) (by simp))⟩
      ·have HCL:=aF (HBF.out.close (fun y hy=>by
        obtain ⟨j,hj,he⟩:=List.mem_iff_getElem.1 ((HMEM.out y).2 hy)
        exact HDN.out j y (by omega) (by rw [bB hj,he])))
       clear HBF HDN
       go_wp2_with fail
       go_roundg (2 * (n - sl2.length)+qs2.length)
       case measure=>omega
       case rel=>exact ⟨sl2,qs2,rfl,by omega,HCL,HQU,HOWN,HBL,hsz2⟩
end
section
open Go Go.RowKit
theorem fA (m:Nat):((m:Int) == 0)=decide (m=0):=by
 rw [bQ]
 simp
theorem fI (p:Plc) (A:Option Addr) (c:Nat) (w:World):
 Calls Tryz.prog 124 #[.agg #[.int .i64 p.loc,.slice A p.proj.length c]] w fun e' w'=>e' = .returned (.bool (zeroP p))∧Below w.heap.size w w':=by
 obtain ⟨m,hm⟩:∃m,p.proj.length=m:=⟨_,rfl⟩
 unfold zeroP
 rw [hm]
 obtain ⟨q,hq⟩:∃q,(decide (p.loc=0) && decide (m=0))=q:=⟨_,rfl⟩
 rw [hq]
 have HQ:=aF hq
 clear hq hm
 go_enter Tryz.func124,Tryz.ntmps124
 go_wp2_with fail
 all_goals
  go_ret
  refine ⟨?_,aG⟩
  rw [← HQ.out]
  first
   | (simp_all;done)
   | (simp_all;exact fA m)
theorem dS (p:Plc) (A:Option Addr) (c:Nat) (w:World):
 Calls Tryz.prog 107 #[.agg #[.int .i64 p.loc,.slice A p.proj.length c]] w fun e' w'=>e' = .returned (.bool (zeroP p))∧Below w.heap.size w w':=by
 obtain ⟨m,hm⟩:∃m,p.proj.length=m:=⟨_,rfl⟩
 unfold zeroP
 rw [hm]
 obtain ⟨q,hq⟩:∃q,(decide (p.loc=0) && decide (m=0))=q:=⟨_,rfl⟩
 rw [hq]
 have HQ:=aF hq
 clear hq hm
 go_enter Tryz.func107,Tryz.ntmps107
 go_wp2_with fail
 all_goals
  go_ret
  refine ⟨?_,aG⟩
  rw [← HQ.out]
  first
   | (simp_all;done)
   | (simp_all;exact fA m)
theorem eC (x:Bool) (w:World):Calls Tryz.prog 129 #[.bool x] w fun e' w'=>e' = .returned (.int .i64 (fail22 x))∧w'=w:=by
 cases x
 all_goals
  go_enter Tryz.func129,Tryz.ntmps129
  go_wp2_with fail
  go_ret
  exact ⟨rfl,rfl⟩
def ckC (b:Bdy) (bh:BH) (r:Nat):List Value:=[.string b.name,.slice bh.A1 b.regions.length bh.c1,.slice bh.A2 b.outl.length bh.c2,.slice bh.A3 b.types.length bh.c3,.slice bh.A4 b.locals.length bh.c4,.int .i64 b.args,.slice bh.A5 b.blocks.length bh.c5,.pointer (some ⟨r,0,none⟩)]
theorem eY (b:Bdy) (bh:BH) (r:Nat) (p:Plc) (A:Option Addr) (c:Nat) (w:World) (H:BdAt w b bh) (hp:Slc 2 RPj w A c p.proj) (hok:Okay b.types b.locals):
 Calls Tryz.prog 132 #[.agg (ckC b bh r).toArray,.agg #[.int .i64 p.loc,.slice A p.proj.length c]] w fun e' w'=>e' = .returned (.tuple #[.int .i64 (tyB b p).1,.int .i64 (tyB b p).2])∧Below w.heap.size w w':=by
 have HT:=aF (fun W (hb:Below w.heap.size w W)=>uX b.types b.locals p.loc p.proj bh.A3 bh.A4 A bh.c3 bh.c4 c W (H.keep hb).typ (H.keep hb).loc (hp.keep RPj.keeps hb) hok)
 change Hid (∀W,Below w.heap.size w W→Calls Tryz.prog 182 _ W fun e' w'=>e' = .returned (.tuple #[.int .i64 (tyB b p).1,.int .i64 (tyB b p).2])∧Below W.heap.size W w') at HT
 generalize tyB b p=q at HT ⊢
 clear H hp hok
 unfold ckC
 go_enter Tryz.func132,Tryz.ntmps132
 go_wp2_with (go_at_call 182;refine (HT.out _ (bel2 _ _ _)).mono ?_;rintro e' w1 ⟨rfl,hb1⟩)
 go_ret2
 exact ⟨rfl,(bel2 _ _ _).trans (hb1.mono (bel2 _ _ _).size)⟩
theorem eK (b:Bdy) (bh:BH) (p:Plc) (A:Option Addr) (c:Nat) (w:World) (H:BdAt w b bh) (hp:Slc 2 RPj w A c p.proj) (hok:Okay b.types b.locals):
 Calls Tryz.prog 104 #[.agg (bdC b bh).toArray,.agg #[.int .i64 p.loc,.slice A p.proj.length c]] w fun e' w'=>e' = .returned (.tuple #[.int .i64 (tyB b p).1,.int .i64 (tyB b p).2])∧Below w.heap.size w w':=by
 have HT:=aF (fun W (hb:Below w.heap.size w W)=>kT b.types b.locals p.loc _ p.proj rfl bh.A3 bh.A4 A bh.c3 bh.c4 c W (H.keep hb).typ (H.keep hb).loc (hp.keep RPj.keeps hb) hok)
 change Hid (∀W,Below w.heap.size w W→Calls Tryz.prog 147 _ W fun e' w'=>e' = .returned (.tuple #[.int .i64 (tyB b p).1,.int .i64 (tyB b p).2])∧Below W.heap.size W w') at HT
 generalize tyB b p=q at HT ⊢
 clear H hp hok
 unfold bdC
 go_enter Tryz.func104,Tryz.ntmps104
 go_wp2_with (go_at_call 147;refine (HT.out _ (bel2 _ _ _)).mono ?_;rintro e' w1 ⟨rfl,hb1⟩)
 go_ret2
 exact ⟨rfl,(bel2 _ _ _).trans (hb1.mono (bel2 _ _ _).size)⟩
theorem kV (b:Bdy) (bh:BH) (p:Plc) (A:Option Addr) (c:Nat) (w:World) (H:BdAt w b bh) (hp:Slc 2 RPj w A c p.proj) (hok:Okay b.types b.locals):
 Calls Tryz.prog 105 #[.agg (bdC b bh).toArray,.agg #[.int .i64 p.loc,.slice A p.proj.length c]] w fun e' w'=>e' = .returned (.bool (mutB b p))∧Below w.heap.size w w':=by
 have HT:=aF (fun W (hb:Below w.heap.size w W)=>qD b.types b.locals p.loc p.proj bh.A3 bh.A4 A bh.c3 bh.c4 c W (H.keep hb).typ (H.keep hb).loc (hp.keep RPj.keeps hb) hok)
 change Hid (∀W,Below w.heap.size w W→Calls Tryz.prog 148 _ W fun e' w'=>e' = .returned (.bool (mutB b p))∧Below W.heap.size W w') at HT
 generalize mutB b p=q at HT ⊢
 clear H hp hok
 unfold bdC
 go_enter Tryz.func105,Tryz.ntmps105
 go_wp2_with (go_at_call 148;refine (HT.out _ (bel2 _ _ _)).mono ?_;rintro e' w1 ⟨rfl,hb1⟩)
 go_ret
 exact ⟨rfl,(bel2 _ _ _).trans (hb1.mono (bel2 _ _ _).size)⟩
def rvC (r:Rvl) (A:Option Addr) (c:Nat) (B:Option Addr) (d:Nat):List Value:=[.int .i64 r.kind,.int .i64 r.op,.int .i64 r.reg,.bool r.mu,.int .i64 r.place.loc,.slice A r.place.proj.length c,.slice B r.args.length d]
def tmC (t:Trm) (A:Option Addr) (c:Nat) (B:Option Addr) (d:Nat) (C:Option Addr) (e:Nat):List Value:=[.int .i64 t.kind,.slice A t.targets.length c,.slice B t.args.length d,.int .i64 t.place.loc,.slice C t.place.proj.length e,.string t.name]
def opC (o:Opd) (A:Option Addr) (c:Nat):List Value:=[.int .i64 o.kind,.int .i64 o.place.loc,.slice A o.place.proj.length c,.int .i64 o.n]
theorem cW (w:World) (l:List Value) (t:TypeId):∀i v,l[i]?=some v→(w.alloc (.cells l.toArray t)).cell? ⟨w.heap.size,i,none⟩=some v:=fun i v hi=>by
 rw [World.cell?_alloc_at _ _ _ _ (by simp)]
 simpa using hi
theorem cells_kept {W w1:World} {n:Nat} {l:List Value} (h:∀i v,l[i]?=some v→W.cell? ⟨n,i,none⟩=some v) (hb:Below W.heap.size W w1):∀i v,l[i]?=some v→w1.cell? ⟨n,i,none⟩=some v:=fun i v hi=>cell_keep hb (h i v hi)
theorem lG (m k:Nat):((m:Int) == (k:Int))=decide (m=k):=by
 rw [bQ]
 simp
 omega
theorem uT (r:Rvl) (A B:Option Addr) (c d:Nat) (w:World):
 Calls Tryz.prog 176 #[.agg (rvC r A c B d).toArray] w fun e' w'=>e' = .returned (.bool (unusedR r))∧Below w.heap.size w w':=by
 have HZ:=aF (fun W=>fI r.place A c W)
 obtain ⟨k,op,rg,mu,pl,args⟩:=r
 simp only at HZ
 unfold rvC
 simp only
 obtain ⟨m,hm⟩:∃m,args.length=m:=⟨_,rfl⟩
 have HQ:Hid (unusedR ⟨k,op,rg,mu,pl,args⟩=(let plain:=decide (rg=0) && !mu && zeroP pl;if k=0 then plain && decide (op=0) && decide (m=1) else if k=1 then decide (op=0) && decide (m=0) else if k=2 then plain && decide (m=1) else if k=3 then plain && decide (m=2) else plain && decide (op=0))):=aF (by unfold unusedR;rw [← hm])
 rw [hm]
 generalize unusedR ⟨k,op,rg,mu,pl,args⟩=q at HQ ⊢
 generalize zeroP pl=z at HZ HQ
 clear hm
 have n1:=aF (lG m 1)
 have n0:=aF (fA m)
 have n2:=aF (lG m 2)
 rcases (show k=0∨k=1∨k=2∨k=3∨(k≠0∧k≠1∧k≠2∧k≠3) by omega) with rfl | rfl | rfl | rfl | ⟨h0,h1,h2,h3⟩
 case inr.inr.inr.inr=>
  have e0:(k == 0)=false:=by simp [h0]
  have e1:(k == 1)=false:=by simp [h1]
  have e2:(k == 2)=false:=by simp [h2]
  have e3:(k == 3)=false:=by simp [h3]
  have HF:Hid (q=(decide (rg=0) && !mu && z && decide (op=0))):=aF (by rw [HQ.out];simp only;rw [aX h0,aX h1,aX h2,aX h3])
  clear HQ h0 h1 h2 h3
  go_enter Tryz.func176,Tryz.ntmps176
  go_wp2_with (go_at_call 124;refine (HZ.out _).mono ?_;rintro e' w1 ⟨rfl,hb1⟩;have y:=cells_kept (cW w _ _) hb1;obtain ⟨y0,y1,y2,y3,y4,y5,y6⟩:=aQ y;clear y)
  all_goals
   go_ret
   refine ⟨?_,by first | exact ((aV _ _).alloc (aW _) _).trans (hb1.mono (by simp)) | exact aG⟩
   rw [HF.out]
   show Ending.returned (.bool _)=_
   clear HF HZ
   refine congrArg (fun b=>Ending.returned (Value.bool b)) ?_
   try clear y0 y1 y2 y3 y4 y5 y6
   first | (clear e0 e1 e2 e3;have ho:(op == 0)=decide (op=0):=by (rw [bQ];simp);rw [ho];simp_all;done) | (clear e0 e1 e2 e3;grind)
 ·have HF:=aF HQ.out
  clear HQ
  go_enter Tryz.func176,Tryz.ntmps176
  go_wp2_with (go_at_call 124;refine (HZ.out _).mono ?_;rintro e' w1 ⟨rfl,hb1⟩;have y:=cells_kept (cW w _ _) hb1;obtain ⟨y0,y1,y2,y3,y4,y5,y6⟩:=aQ y;clear y)
  all_goals
   go_ret
   refine ⟨?_,by first | exact ((aV _ _).alloc (aW _) _).trans (hb1.mono (by simp)) | exact aG⟩
   have m1:=n1.out
   have m0:=n0.out
   have m2:=n2.out
   rw [HF.out]
   first | (simp_all;done) | (clear HZ;simp_all;done) | (cases mu <;> cases z <;> simp_all;done) | (clear HZ;grind)
 ·have HF:=aF HQ.out
  clear HQ
  go_enter Tryz.func176,Tryz.ntmps176
  go_wp2_with (go_at_call 124;refine (HZ.out _).mono ?_;rintro e' w1 ⟨rfl,hb1⟩;have y:=cells_kept (cW w _ _) hb1;obtain ⟨y0,y1,y2,y3,y4,y5,y6⟩:=aQ y;clear y)
  all_goals
   go_ret
   refine ⟨?_,by first | exact ((aV _ _).alloc (aW _) _).trans (hb1.mono (by simp)) | exact aG⟩
   have m1:=n1.out
   have m0:=n0.out
   have m2:=n2.out
   rw [HF.out]
   first | (simp_all;done) | (clear HZ;simp_all;done) | (cases mu <;> cases z <;> simp_all;done) | (clear HZ;grind)
 ·have HF:=aF HQ.out
  clear HQ
  go_enter Tryz.func176,Tryz.ntmps176
  go_wp2_with (go_at_call 124;refine (HZ.out _).mono ?_;rintro e' w1 ⟨rfl,hb1⟩;have y:=cells_kept (cW w _ _) hb1;obtain ⟨y0,y1,y2,y3,y4,y5,y6⟩:=aQ y;clear y)
  all_goals
   go_ret
   refine ⟨?_,by first | exact ((aV _ _).alloc (aW _) _).trans (hb1.mono (by simp)) | exact aG⟩
   have m1:=n1.out
   have m0:=n0.out
   have m2:=n2.out
   rw [HF.out]
   first | (simp_all;done) | (clear HZ;simp_all;done) | (cases mu <;> cases z <;> simp_all;done) | (clear HZ;grind)
 ·have HF:=aF HQ.out
  clear HQ
  go_enter Tryz.func176,Tryz.ntmps176
  go_wp2_with (go_at_call 124;refine (HZ.out _).mono ?_;rintro e' w1 ⟨rfl,hb1⟩;have y:=cells_kept (cW w _ _) hb1;obtain ⟨y0,y1,y2,y3,y4,y5,y6⟩:=aQ y;clear y)
  all_goals
   go_ret
   refine ⟨?_,by first | exact ((aV _ _).alloc (aW _) _).trans (hb1.mono (by simp)) | exact aG⟩
   have m1:=n1.out
   have m0:=n0.out
   have m2:=n2.out
   rw [HF.out]
   first | (simp_all;done) | (clear HZ;simp_all;done) | (cases mu <;> cases z <;> simp_all;done) | (clear HZ;grind)
theorem wS (m k:Nat) (x y:Int) (n:Nat) (A B:Option Addr) (c d:Nat) (w:World) (h1:w.cell? ⟨n,1,none⟩=some (.slice A m c)) (h2:w.cell? ⟨n,2,none⟩=some (.slice B k d)):
 Calls Tryz.prog 179 #[.int .i64 x,.int .i64 y,.pointer (some ⟨n,0,none⟩)] w fun e' w'=>e' = .returned (.bool (decide ((m:Int)=x) && decide ((k:Int)=y)))∧w'=w:=by
 go_enter Tryz.func179,Tryz.ntmps179
 go_wp2_with fail
 all_goals
  go_ret
  refine ⟨?_,rfl⟩
  refine congrArg (fun b=>Ending.returned (Value.bool b)) ?_
  clear h1 h2
  grind
theorem eN (s:ByteArray):s.toList.isEmpty=decide (s.size=0):=by
 rw [bQ,Lib.toList_data,List.isEmpty_iff,← List.length_eq_zero_iff,decide_eq_true_eq]
 show s.data.toList.length=0↔s.data.size=0
 rw [Array.length_toList]
theorem gC (t:Trm) (A B C:Option Addr) (c d f:Nat) (w:World):
 Calls Tryz.prog 127 #[.agg (tmC t A c B d C f).toArray] w fun e' w'=>e' = .returned (.bool (fieldsT t))∧Below w.heap.size w w':=by
 have HZ:=aF (fun W=>fI t.place C f W)
 obtain ⟨k,tg,args,pl,nm⟩:=t
 simp only at HZ
 unfold tmC
 simp only
 obtain ⟨m,hm⟩:∃m,tg.length=m:=⟨_,rfl⟩
 obtain ⟨j,hj⟩:∃j,args.length=j:=⟨_,rfl⟩
 have HQ:=aF (show fieldsT ⟨k,tg,args,pl,nm⟩=_ by unfold fieldsT;simp only;rw [hm,hj])
 rw [hm,hj]
 generalize fieldsT ⟨k,tg,args,pl,nm⟩=q at HQ ⊢
 generalize zeroP pl=z at HZ HQ
 clear hm hj
 have hmf:∀(fn:Fn) (first cap:Array Value) (w:World),(Instr.makeFunc fn first cap).run Tryz.prog w = .ok (.func fn first cap) w:=fun _ _ _ _=>rfl
 go_enter Tryz.func127,Tryz.ntmps127
 go_wp2_with (first | (go_at_call 124;refine (HZ.out _).mono ?_;rintro e' w1 ⟨rfl,hb1⟩;have y:=cells_kept (cW w _ _) hb1;obtain ⟨y0,y1,y2,y3,y4,y5⟩:=aP y;clear y) | (go_at_call 179;refine (wS m j _ _ _ A B c d _ (cW w _ _ 1 _ rfl) (cW w _ _ 2 _ rfl)).mono ?_;rintro e' _ ⟨rfl,rfl⟩))
 all_goals
  go_ret
  refine ⟨?_,by first | exact ((aV _ _).alloc (aW _) _).trans (hb1.mono (by simp)) | exact aG⟩
  have HF:=HQ.out
  try clear y0 y1 y2 y3 y4 y5
  try clear hb1
  clear HQ HZ hmf
  rw [HF]
  first | refine congrArg (fun b=>Ending.returned (Value.bool b)) ?_ | (refine congrArg Ending.returned ?_)
  have hn:=eN nm
  try rw [hn]
  clear hn
  generalize decide (nm.size=0)=u
  by_cases g1:m=1 <;> by_cases g2:m=2 <;> by_cases g3:j=1 <;> grind
def shapeE (r:Rvl):Int:=if r.kind<0∨4<r.kind then 14 else if unusedR r=false then 2 else 0
theorem vO (r:Rvl) (A B:Option Addr) (c d:Nat) (w:World):
 Calls Tryz.prog 108 #[.agg (rvC r A c B d).toArray] w fun e' w'=>e' = .returned (.bool (blankR r))∧Below w.heap.size w w':=by
 have HZ:=aF (fun W=>dS r.place A c W)
 obtain ⟨q2,hq2⟩:∃q,(r.kind == 0)=q:=⟨_,rfl⟩
 obtain ⟨q3,hq3⟩:∃q,(r.op == 0)=q:=⟨_,rfl⟩
 obtain ⟨q4,hq4⟩:∃q,((r.args.length:Int) == 0)=q:=⟨_,rfl⟩
 obtain ⟨q5,hq5⟩:∃q,(r.reg == 0)=q:=⟨_,rfl⟩
 obtain ⟨q6,hq6⟩:∃q,r.mu=q:=⟨_,rfl⟩
 obtain ⟨q7,hq7⟩:∃q,zeroP r.place=q:=⟨_,rfl⟩
 have HBL:Hid (blankR r=(q2 && q3 && q4 && q5 && !q6 && q7)):=aF (by
  unfold blankR
  rw [← hq2,← hq3,← hq4,← hq5,← hq6,← hq7,fA]
  rfl)
 rw [hq7] at HZ
 generalize blankR r=R at HBL ⊢
 clear hq7
 unfold rvC
 rcases (show q2=false∨(q2=true∧q3=false)∨(q2=true∧q3=true∧q5=false)∨(q2=true∧q3=true∧q5=true∧q6=true)∨(q2=true∧q3=true∧q5=true∧q6=false∧q7=false)∨(q2=true∧q3=true∧q5=true∧q6=false∧q7=true) by cases q2 <;> cases q3 <;> cases q5 <;> cases q6 <;> cases q7 <;> simp) with rfl | ⟨rfl,rfl⟩ | ⟨rfl,rfl,rfl⟩ | ⟨rfl,rfl,rfl,rfl⟩ | ⟨rfl,rfl,rfl,rfl,rfl⟩ | ⟨rfl,rfl,rfl,rfl,rfl⟩
 all_goals
  go_enter Tryz.func108,Tryz.ntmps108
  go_wp2_with (go_at_call 107;refine (HZ.out _).mono ?_;rintro e' w1 ⟨rfl,hb1⟩;have HB:=aF (((aV _ _).alloc (aW _) _).trans (hb1.mono ((aV _ _).alloc (aW _) _).size));have y:=cells_kept (cW w _ _) hb1;obtain ⟨y0,y1,y2,y3,y4,y5,y6⟩:=aQ y;clear y hb1)
  go_ret
  refine ⟨?_,by first | exact HB.out | exact aG⟩
  rw [HBL.out]
  clear HZ HBL
  first | rfl | (simp;done) | (cases q4 <;> simp;done) | (cases q3 <;> cases q4 <;> cases q5 <;> cases q6 <;> cases q7 <;> simp;done)
theorem eQ (r:Rvl) (A B:Option Addr) (c d:Nat) (w:World):
 Calls Tryz.prog 149 #[.agg (rvC r A c B d).toArray] w fun e' w'=>e' = .returned (.int .i64 (shapeE r))∧Below w.heap.size w w':=by
 have HZ:=aF (fun W=>dS r.place A c W)
 obtain ⟨R,hR⟩:∃R,shapeE r=R:=⟨_,rfl⟩
 rw [hR]
 unfold shapeE at hR
 by_cases h0:r.kind<0∨4<r.kind
 ·have HF:Hid (R=14):=aF (by rw [← hR,aY h0])
  clear hR HZ
  unfold rvC
  go_enter Tryz.func149,Tryz.ntmps149
  go_wp2_with fail
  all_goals first
   | (exfalso;omega)
   | (go_ret;exact ⟨by rw [HF.out];rfl,aG⟩)
 rw [aX h0] at hR
 obtain ⟨q3,hq3⟩:∃q,(r.op != 0)=q:=⟨_,rfl⟩
 obtain ⟨q5,hq5⟩:∃q,(r.reg != 0)=q:=⟨_,rfl⟩
 obtain ⟨q6,hq6⟩:∃q,r.mu=q:=⟨_,rfl⟩
 obtain ⟨q7,hq7⟩:∃q,zeroP r.place=q:=⟨_,rfl⟩
 obtain ⟨n,hn⟩:∃n,r.args.length=n:=⟨_,rfl⟩
 have k3:decide (r.op=0) = !q3:=by rw [← hq3,bQ];simp
 have k5:decide (r.reg=0) = !q5:=by rw [← hq5,bQ];simp
 have HR:Hid (R=if (let plain:=(!q5) && !q6 && q7;if r.kind=0 then plain && !q3 && decide (n=1) else if r.kind=1 then !q3 && decide (n=0) else if r.kind=2 then plain && decide (n=1) else if r.kind=3 then plain && decide (n=2) else plain && !q3)=false then 2 else 0):=aF (by
  rw [← hR]
  unfold unusedR
  rw [k3,k5,hq6,hq7,hn])
 rw [hq7] at HZ
 clear hR k3 k5 hq7
 unfold rvC
 rw [hn,hq6]
 rcases (show r.kind=0∨r.kind=1∨r.kind=2∨r.kind=3∨r.kind=4 by omega) with hk | hk | hk | hk | hk
 ·rw [hk] at HR ⊢
  have HF:=aF HR.out
  clear HR hk h0 hn hq6
  simp only at HF
  rcases (show q3=true∨(q3=false∧q5=true)∨(q3=false∧q5=false∧q6=true)∨(q3=false∧q5=false∧q6=false∧q7=false)∨(q3=false∧q5=false∧q6=false∧q7=true) by cases q3 <;> cases q5 <;> cases q6 <;> cases q7 <;> simp) with rfl | ⟨rfl,rfl⟩ | ⟨rfl,rfl,rfl⟩ | ⟨rfl,rfl,rfl,rfl⟩ | ⟨rfl,rfl,rfl,rfl⟩
  all_goals
   go_enter Tryz.func149,Tryz.ntmps149
   go_wp2_with (go_at_call 107;refine (HZ.out _).mono ?_;rintro e' w1 ⟨rfl,hb1⟩;have HB:=aF (((aV _ _).alloc (aW _) _).trans (hb1.mono ((aV _ _).alloc (aW _) _).size));have y:=cells_kept (cW w _ _) hb1;obtain ⟨y0,y1,y2,y3,y4,y5,y6⟩:=aQ y;clear y hb1)
   all_goals first
    | (exfalso;omega)
    | (go_ret
       refine ⟨?_,by first | exact HB.out | exact aG⟩
       rw [HF.out]
       refine congrArg (fun i=>Ending.returned (Value.int .i64 i)) ?_
       clear HF HZ
       try clear HB y0 y1 y2 y3 y4 y5 y6
       first | rfl | (simp;done) | (simp;omega) | (simp_all;done) | (simp_all;omega) | grind)
 ·rw [hk] at HR ⊢
  have HF:=aF HR.out
  clear HR hk h0 hn hq6
  simp only at HF
  cases q3
  all_goals
   go_enter Tryz.func149,Tryz.ntmps149
   go_wp2_with (go_at_call 107;refine (HZ.out _).mono ?_;rintro e' w1 ⟨rfl,hb1⟩;have HB:=aF (((aV _ _).alloc (aW _) _).trans (hb1.mono ((aV _ _).alloc (aW _) _).size));have y:=cells_kept (cW w _ _) hb1;obtain ⟨y0,y1,y2,y3,y4,y5,y6⟩:=aQ y;clear y hb1)
   all_goals first
    | (exfalso;omega)
    | (go_ret
       refine ⟨?_,by first | exact HB.out | exact aG⟩
       rw [HF.out]
       refine congrArg (fun i=>Ending.returned (Value.int .i64 i)) ?_
       clear HF HZ
       try clear HB y0 y1 y2 y3 y4 y5 y6
       first | rfl | (simp;done) | (simp;omega) | (simp_all;done) | (simp_all;omega) | grind)
 ·rw [hk] at HR ⊢
  have HF:=aF HR.out
  clear HR hk h0 hn hq6
  simp only at HF
  rcases (show q5=true∨(q5=false∧q6=true)∨(q5=false∧q6=false∧q7=false)∨(q5=false∧q6=false∧q7=true) by cases q5 <;> cases q6 <;> cases q7 <;> simp) with rfl | ⟨rfl,rfl⟩ | ⟨rfl,rfl,rfl⟩ | ⟨rfl,rfl,rfl⟩
  all_goals
   go_enter Tryz.func149,Tryz.ntmps149
   go_wp2_with (go_at_call 107;refine (HZ.out _).mono ?_;rintro e' w1 ⟨rfl,hb1⟩;have HB:=aF (((aV _ _).alloc (aW _) _).trans (hb1.mono ((aV _ _).alloc (aW _) _).size));have y:=cells_kept (cW w _ _) hb1;obtain ⟨y0,y1,y2,y3,y4,y5,y6⟩:=aQ y;clear y hb1)
   all_goals first
    | (exfalso;omega)
    | (go_ret
       refine ⟨?_,by first | exact HB.out | exact aG⟩
       rw [HF.out]
       refine congrArg (fun i=>Ending.returned (Value.int .i64 i)) ?_
       clear HF HZ
       try clear HB y0 y1 y2 y3 y4 y5 y6
       first | rfl | (simp;done) | (simp;omega) | (simp_all;done) | (simp_all;omega) | grind)
 ·rw [hk] at HR ⊢
  have HF:=aF HR.out
  clear HR hk h0 hn hq6
  simp only at HF
  rcases (show q5=true∨(q5=false∧q6=true)∨(q5=false∧q6=false∧q7=false)∨(q5=false∧q6=false∧q7=true) by cases q5 <;> cases q6 <;> cases q7 <;> simp) with rfl | ⟨rfl,rfl⟩ | ⟨rfl,rfl,rfl⟩ | ⟨rfl,rfl,rfl⟩
  all_goals
   go_enter Tryz.func149,Tryz.ntmps149
   go_wp2_with (go_at_call 107;refine (HZ.out _).mono ?_;rintro e' w1 ⟨rfl,hb1⟩;have HB:=aF (((aV _ _).alloc (aW _) _).trans (hb1.mono ((aV _ _).alloc (aW _) _).size));have y:=cells_kept (cW w _ _) hb1;obtain ⟨y0,y1,y2,y3,y4,y5,y6⟩:=aQ y;clear y hb1)
   all_goals first
    | (exfalso;omega)
    | (go_ret
       refine ⟨?_,by first | exact HB.out | exact aG⟩
       rw [HF.out]
       refine congrArg (fun i=>Ending.returned (Value.int .i64 i)) ?_
       clear HF HZ
       try clear HB y0 y1 y2 y3 y4 y5 y6
       first | rfl | (simp;done) | (simp;omega) | (simp_all;done) | (simp_all;omega) | grind)
 ·rw [hk] at HR ⊢
  have HF:=aF HR.out
  clear HR hk h0 hn hq6
  simp only at HF
  rcases (show q3=true∨(q3=false∧q5=true)∨(q3=false∧q5=false∧q6=true)∨(q3=false∧q5=false∧q6=false∧q7=false)∨(q3=false∧q5=false∧q6=false∧q7=true) by cases q3 <;> cases q5 <;> cases q6 <;> cases q7 <;> simp) with rfl | ⟨rfl,rfl⟩ | ⟨rfl,rfl,rfl⟩ | ⟨rfl,rfl,rfl,rfl⟩ | ⟨rfl,rfl,rfl,rfl⟩
  all_goals
   go_enter Tryz.func149,Tryz.ntmps149
   go_wp2_with (go_at_call 107;refine (HZ.out _).mono ?_;rintro e' w1 ⟨rfl,hb1⟩;have HB:=aF (((aV _ _).alloc (aW _) _).trans (hb1.mono ((aV _ _).alloc (aW _) _).size));have y:=cells_kept (cW w _ _) hb1;obtain ⟨y0,y1,y2,y3,y4,y5,y6⟩:=aQ y;clear y hb1)
   all_goals first
    | (exfalso;omega)
    | (go_ret
       refine ⟨?_,by first | exact HB.out | exact aG⟩
       rw [HF.out]
       refine congrArg (fun i=>Ending.returned (Value.int .i64 i)) ?_
       clear HF HZ
       try clear HB y0 y1 y2 y3 y4 y5 y6
       first | rfl | (simp;done) | (simp;omega) | (simp_all;done) | (simp_all;omega) | grind)
end
section
open Go Go.RowKit Go.Maps
def FineT (ts:List Ty) (sl:List Int) (x:Int):Prop:=0≤x∧∀(h:x.toNat<ts.length),ts[x.toNat].kind≠3→∀f∈ts[x.toNat].flds,CovT ts sl f
theorem FineT.mono {ts:List Ty} {sl sl':List Int} {x:Int} (h:FineT ts sl x) (hs:∀y∈sl,y∈sl'):FineT ts sl' x:=
 ⟨h.1,fun hl hk f hf=>(h.2 hl hk f hf).mono hs⟩
def NewT (ts:List Ty) (sl sl':List Int):Prop:=(∀x∈sl,x∈sl')∧∀x∈sl',x∈sl∨FineT ts sl' x
theorem NewT.refl (ts:List Ty) (sl:List Int):NewT ts sl sl:=⟨fun _ h=>h,fun _ h=>Or.inl h⟩
theorem NewT.trans {ts:List Ty} {a b c:List Int} (h:NewT ts a b) (k:NewT ts b c):NewT ts a c:=
 ⟨fun x hx=>k.1 x (h.1 x hx),fun x hx=>by
   rcases k.2 x hx with hb | hb
   ·rcases h.2 x hb with ha | ha
    ·exact Or.inl ha
    ·exact Or.inr (ha.mono k.1)
   ·exact Or.inr hb⟩
theorem NewT.mark {ts:List Ty} {a b:List Int} {i:Nat} (hi:i<ts.length) (h:NewT ts ((i:Int) :: a) b) (hf:∀f∈ts[i].flds,CovT ts b f):NewT ts a b:=
 ⟨fun x hx=>h.1 x (List.mem_cons_of_mem _ hx),fun x hx=>by
   rcases h.2 x hx with ha | ha
   ·rcases List.mem_cons.1 ha with rfl | ha
    ·exact Or.inr ⟨by omega,fun _ _ f hff=>hf f (by simpa using hff)⟩
    ·exact Or.inl ha
   ·exact Or.inr ha⟩
theorem xCX {ts:List Ty} (hok:TyOk ts) {sl:List Int} (h:NewT ts [] sl) {i:Int} (hc:CovT ts sl i):copB ts i=true:=
 uK hok (fun x hx hl h0 hk f hf=>by
  rcases h.2 x hx with hn | hn
  ·exact absurd hn (by simp)
  ·exact hn.2 hl hk f hf) (i.toNat+1) i (by omega) hc
theorem eR {w w':World} {row:Option Nat} (hg:w.grownBy w' row) {p:Addr} {v:Value} (h:w.cell? p=some v) (hne:some p.block≠row):w'.cell? p=some v:=
 (World.cell?_of_block (hg.block _ (cD _ _ h) hne)).trans h
theorem fC {w w':World} (h:Below w.heap.size w w') (row:Option Nat):w.grownBy w' row:=
 ⟨h.os,h.tape,h.output,h.size,fun i hi _=>h.block i hi⟩
structure CopE where
 w0:World
 A:Option Addr
 c:Nat
 pl:Nat
 ps:Nat
 pc:Nat
 M:Nat
structure CopE.Ok (E:CopE) (ts:List Ty):Prop where
 ty:Slc 5 RTy E.w0 E.A E.c ts
 tyok:TyOk ts
 n:ts.length≤65535
 M:E.w0.heap.size≤E.M
 l:E.M≠E.pl
 s:E.M≠E.ps
 c:E.M≠E.pc
structure CopE.St (E:CopE) (n:Nat) (W:World) (sl:List Int) (F:Value):Prop where
 low:Below E.w0.heap.size E.w0 W
 l:W.cell? ⟨E.pl,0,none⟩=some (.slice E.A n E.c)
 s:W.cell? ⟨E.ps,0,none⟩=some (.map (some E.M))
 c:W.cell? ⟨E.pc,0,none⟩=some F
 own:OwnB Tryz.prog 3 4 W E.M sl.length (i64F (inF sl))
 nd:sl.Nodup
 rng:∀x∈sl,0≤x∧x<(n:Int)
theorem CopE.St.len {E:CopE} {n:Nat} {W:World} {sl:List Int} {F:Value} (h:E.St n W sl F):sl.length≤n:=fE n sl h.nd h.rng
theorem CopE.St.keep {E:CopE} {n:Nat} {W W':World} {sl:List Int} {F:Value} (h:E.St n W sl F) (hb:Below W.heap.size W W'):E.St n W' sl F:=
 ⟨h.low.trans (hb.mono h.low.size),cell_keep hb h.l,cell_keep hb h.s,cell_keep hb h.c,h.own.below hb,h.nd,h.rng⟩
theorem CopE.St.put {E:CopE} {ts:List Ty} {n:Nat} {W W':World} {sl:List Int} {F:Value} (h:E.St n W sl F) (hE:E.Ok ts) {i:Int} (hi:i∉sl) (hr:0≤i∧i<(n:Int))
 (hown:OwnB Tryz.prog 3 4 W' E.M (sl.length+1) (i64F (inF (i :: sl)))) (hg:W.grownBy W' (some E.M)):E.St n W' (i :: sl) F:=by
 have hc:∀(p:Nat) (v:Value),E.M≠p→W.cell? ⟨p,0,none⟩=some v→W'.cell? ⟨p,0,none⟩=some v:=fun p v hne hv=>
  eR hg hv (by simpa using (Ne.symm hne))
 refine ⟨h.low.trans (eP hg hE.M h.low.size),hc _ _ hE.l h.l,hc _ _ hE.s h.s,hc _ _ hE.c h.c,hown,List.nodup_cons.2 ⟨hi,h.nd⟩,fun x hx=>?_⟩
 rcases List.mem_cons.1 hx with rfl | hx
 ·exact hr
 ·exact h.rng x hx
def CopE.Q (E:CopE) (ts:List Ty) (F:Value) (sl:List Int) (i:Int) (q:Bool) (W':World):Prop:=
 (q=true∧∃sl',NewT ts sl sl'∧CovT ts sl' i∧E.St ts.length W' sl' F)∨(q=false∧copB ts i=false∧Below E.w0.heap.size E.w0 W')
def CopE.F (E:CopE):Value:= .func (.func 215) #[] #[.pointer (some ⟨E.pl,0,none⟩),.pointer (some ⟨E.ps,0,none⟩),.pointer (some ⟨E.pc,0,none⟩)]
def CopE.Rec (E:CopE) (ts:List Ty) (m:Nat):Prop:=∀i:Nat,i<m→i<ts.length→∀W sl,E.St ts.length W sl E.F→
 Calls Tryz.prog 215 #[.int .i64 i,.pointer (some ⟨E.pl,0,none⟩),.pointer (some ⟨E.ps,0,none⟩),.pointer (some ⟨E.pc,0,none⟩)] W fun e' W'=>∃q,e' = .returned (.bool q)∧E.Q ts E.F sl i q W'
theorem xDQ (E:CopE) (ts:List Ty) (m:Nat) (HR:E.Rec ts m) (k:Nat) (hk:k<m) (hkl:k<ts.length) (W:World) (sl:List Int) (h:E.St ts.length W sl E.F):
 Calls Tryz.prog 217 #[.int .i64 k,.pointer (some ⟨E.pc,0,none⟩)] W fun e' W'=>∃q,e' = .returned (.bool (!q))∧E.Q ts E.F sl k q W':=by
 have x:=h.c
 have HC:=aF (HR k hk hkl W sl h)
 clear h HR
 generalize E.Q ts E.F sl k=Q at HC ⊢
 unfold CopE.F at x
 go_enter Tryz.func217,Tryz.ntmps217
 go_wp2_with (go_at_call 215;refine HC.out.mono ?_;rintro e' w1 ⟨q,rfl,hq⟩)
 go_ret
 exact ⟨q,rfl,hq⟩
def CopE.IQ (E:CopE) (ts:List Ty) (sl fl:List Int) (r:Int) (W':World):Prop:=
 (r = -1∧∃sl',NewT ts sl sl'∧(∀f∈fl,CovT ts sl' f)∧E.St ts.length W' sl' E.F)∨(0≤r∧(∃f∈fl,copB ts f=false)∧Below E.w0.heap.size E.w0 W')
theorem xDO (E:CopE) (ts:List Ty) (m:Nat) (HR:E.Rec ts m) (fl:List Int) (hfl:∀f∈fl,0≤f∧f<(m:Int)∧f<(ts.length:Int)) (B:Option Addr) (d:Nat) (hs:Slc 1 RInt E.w0 B d fl) (W:World) (sl:List Int) (h:E.St ts.length W sl E.F):
 Calls Tryz.prog 230 #[.slice B fl.length d,.func (.func 217) #[] #[.pointer (some ⟨E.pc,0,none⟩)]] W fun e' W'=>∃r:Int,e' = .returned (.int .i64 r)∧E.IQ ts sl fl r W':=by
 have hle:=hs.le
 have hbig:=hs.big
 have HS:=aF hs
 have H0:=aF h
 have HC:=aF (xDQ E ts m HR)
 clear hs h HR
 go_enter Tryz.func230,Tryz.ntmps230
 go_wp2_with fail
 go_loopw [8] (fun v wr=>∃(k:Nat) (sl':List Int),k≤fl.length∧v = .int .i64 k∧Hid (E.St ts.length wr sl' E.F)∧Hid (NewT ts sl sl')∧Hid (∀j (hj:j<fl.length),j<k→CovT ts sl' fl[j])) (fun v _=>fl.length - (intOf v).toNat)
 case atStart=>exact ⟨0,sl,by omega,rfl,H0,aF (NewT.refl _ _),aF (fun j _ h=>absurd h (by omega))⟩
 case round=>
  obtain ⟨k,sl',hk,rfl,HST,HN,HD⟩:=hrel
  by_cases hlt:k<fl.length
  ·obtain ⟨bb,oo,rfl,hbb,hx⟩:=(HS.out.keep RInt.keeps HST.out.low).sl.at_ hlt
   have hy:=hfl fl[k] (bM hlt)
   obtain ⟨y,hyy⟩:=bF hy.1
   have HY:=aF hyy
   have x0:wr.cell? ⟨bb,oo+k,none⟩=some (.int .i64 y):=by
    rw [← hyy];simpa [RInt] using hx
   have HCK:=aF (HC.out y (by omega) (by omega) wr sl' HST.out)
   have HMEM:=aF (bM hlt)
   clear hx hy hyy HC
   go_wp2_with (go_at_call 217;refine HCK.out.mono ?_;rintro e' w1 ⟨q,rfl,hq⟩;have HQ:=aF hq;clear hq)
   ·have hqf:q=false:=by cases q <;> simp_all
    go_ret
    refine ⟨_,rfl,Or.inr ⟨by omega,⟨_,HMEM.out,?_⟩,?_⟩⟩
    ·rcases HQ.out with ⟨h1,-⟩ | ⟨-,h2,-⟩
     ·rw [hqf] at h1;cases h1
     ·rw [HY.out];exact h2
    ·rcases HQ.out with ⟨h1,-⟩ | ⟨-,-,h3⟩
     ·rw [hqf] at h1;cases h1
     ·exact h3
   ·have hqt:q=true:=by cases q <;> simp_all
    rcases HQ.out with ⟨-,sl2,h1,h2,h3⟩ | ⟨h1,-⟩
    ·go_roundw
     case rel=>
      refine ⟨k+1,sl2,by omega,by go_num,aF h3,aF (HN.out.trans h1),aF (fun j hj hjk=>?_)⟩
      rcases Nat.lt_or_ge j k with hjl | hjl
      ·exact (HD.out j hj hjl).mono h1.1
      ·obtain rfl:j=k:=by omega
       rw [HY.out];exact h2
     case measure=>simp [intOf];omega
    ·rw [hqt] at h1;cases h1
  ·clear HC
   go_wp2_with fail
   go_ret
   exact ⟨-1,rfl,Or.inl ⟨rfl,sl',HN.out,fun f hf=>by
    obtain ⟨j,hj,rfl⟩:=List.mem_iff_getElem.1 hf
    exact HD.out j hj (by omega),HST.out⟩⟩
theorem xDP (E:CopE) (ts:List Ty) (m:Nat) (HR:E.Rec ts m) (fl:List Int) (hfl:∀f∈fl,0≤f∧f<(m:Int)∧f<(ts.length:Int)) (B:Option Addr) (d:Nat) (hs:Slc 1 RInt E.w0 B d fl) (W:World) (sl:List Int) (h:E.St ts.length W sl E.F):
 Calls Tryz.prog 216 #[.slice B fl.length d,.func (.func 217) #[] #[.pointer (some ⟨E.pc,0,none⟩)]] W fun e' W'=>∃r:Int,e' = .returned (.bool (decide (0≤r)))∧E.IQ ts sl fl r W':=by
 have HC:=aF (xDO E ts m HR fl hfl B d hs W sl h)
 clear hs h HR hfl
 generalize E.IQ ts sl fl=Q at HC ⊢
 go_enter Tryz.func216,Tryz.ntmps216
 go_wp2_with (go_at_call 230;refine HC.out.mono ?_;rintro e' w1 ⟨r,rfl,hq⟩)
 go_ret
 exact ⟨r,rfl,hq⟩
theorem oW (E:CopE) (ts:List Ty) (HE:E.Ok ts):∀m:Nat,E.Rec ts m
 | 0=>fun _ h=>absurd h (by omega)
 | m+1=>fun i him hi W sl h=>by
   by_cases him2:i<m
   ·exact oW E ts HE m i him2 hi W sl h
   obtain rfl:m=i:=by omega
   have HC:=aF (xDP E ts m (oW E ts HE m))
   have HOK:=aF (HE.tyok m hi)
   have HCB:=aF (sS HE.tyok hi)
   have hn:=HE.n
   have hlen:=h.len
   have x1:=h.l
   have x2:=h.s
   have keyi:=key3 (a:=(m:Int)) (by omega) (by omega)
   have hown:=h.own
   have HST:=aF h
   have HEE:=aF HE
   have hle:=HE.ty.le
   have hbig:=HE.ty.big
   obtain ⟨bb,oo,hA,hbb,hx⟩:=HE.ty.sl.at_ hi
   have HX:=aF hx
   have HLOW:=aF h.low
   obtain ⟨t,ht⟩:∃t,ts[m]=t:=⟨_,rfl⟩
   rw [ht] at HX HOK HCB
   obtain ⟨r1,r2,r3,r4,A2,c2,r5,r6,r7,r8⟩:=HX.out
   have y1:=cell_keep HLOW.out r1
   have y2:=cell_keep HLOW.out r2
   have y5:=cell_keep HLOW.out r5
   have R5:=aF r5
   have HFL:Hid (Slc 1 RInt E.w0 A2 c2 t.flds):=aF ⟨r8,r6,r7⟩
   have hbl:=bN hbb h.low.size
   have HT:=aF ht
   clear hx HX r8 r1 r2 r3 r4 r5 ht h HE him him2
   rw [hA] at x1
   by_cases h3:t.kind=3
   ·have e3:(t.kind == 3)=true:=by simp [h3]
    have HF:Hid (∀q:Bool,(!t.mu)=q→E.Q ts E.F sl (m:Int) q W):=aF (fun q hq=>by
     cases hmu:t.mu
     ·rw [hmu] at hq;subst hq
      exact Or.inl ⟨rfl,sl,NewT.refl _ _,⟨by simpa using hi,by omega,Or.inl (by simp only [bV];rw [HT.out];exact ⟨h3,hmu⟩)⟩,HST.out⟩
     ·rw [hmu] at hq;subst hq
      exact Or.inr ⟨rfl,by rw [HCB.out,aY h3,hmu];rfl,HLOW.out⟩)
    clear hown HC HCB HOK
    go_enter Tryz.func215,Tryz.ntmps215
    go_wp2_with fail
    go_ret
    exact ⟨_,rfl,HF.out _ rfl⟩
   ·have e3:(t.kind == 3)=false:=by simp [h3]
    by_cases hm:(m:Int)∈sl
    ·have HFB:Hid (i64F (inF sl) (.int .i64 (m:Int))=true):=aF (by simp [i64F,inF,hm])
     have HF:Hid (E.Q ts E.F sl (m:Int) true W):=aF (Or.inl ⟨rfl,sl,NewT.refl _ _,⟨by simpa using hi,by omega,Or.inr (by simp only [bV];rw [HT.out];exact ⟨h3,hm⟩)⟩,HST.out⟩)
     clear HC HCB HOK hm
     go_enter Tryz.func215,Tryz.ntmps215
     go_wp2_with (at_lookup;refine dI _ rfl _ _ 284 rfl 3 4 law3 Tryz.underlying284 Tryz.underlying4 (iC _) _ _ _ rfl hown _ _ rfl keyi ?_;rw [HFB.out])
     go_ret
     exact ⟨_,rfl,HF.out⟩
    ·have HFB:Hid (i64F (inF sl) (.int .i64 (m:Int))=false):=aF (by simp [i64F,inF,hm])
     have HM:=aF hm
     have HH3:=aF h3
     clear hm h3
     go_enter Tryz.func215,Tryz.ntmps215
     go_wp2_with (first
      | (at_lookup;refine dI _ rfl _ _ 284 rfl 3 4 law3 Tryz.underlying284 Tryz.underlying4 (iC _) _ _ _ rfl hown _ _ rfl keyi ?_;rw [HFB.out])
      | (at_mapUpdate;refine eS _ rfl _ _ _ 284 rfl 3 4 law3 Tryz.underlying284 Tryz.underlying4 _ _ _ rfl hown (by unfold maxLen;omega) _ _ _ rfl rfl keyi trivial _ (lN sl (m:Int)) (oQ sl (m:Int)) ?_;intro w3 hown3 hg3;have HS3:=aF (HST.out.put HEE.out HM.out ⟨by omega,by omega⟩ hown3 hg3);have z1:=HS3.out.l;have z5:=cell_keep HS3.out.low R5.out;rw [hA] at z1;clear hown3 hg3)
      | (go_at_call 216;refine (HC.out t.flds (fun f hf=>by have:=HOK.out.2 f hf;omega) A2 c2 HFL.out _ _ HS3.out).mono ?_;rintro e' w4 ⟨r,rfl,hq⟩;have HQ:=aF hq;clear hq))
     go_ret
     refine ⟨_,rfl,?_⟩
     rcases HQ.out with ⟨rfl,sl2,h1,h2,h4⟩ | ⟨h1,⟨f,hf,hcf⟩,h4⟩
     ·refine Or.inl ⟨rfl,sl2,h1.mark hi (by rw [HT.out];exact h2),⟨by simpa using hi,by omega,Or.inr ?_⟩,h4⟩
      simp only [bV]
      rw [HT.out]
      exact ⟨HH3.out,h1.1 _ (by simp)⟩
     ·refine Or.inr ⟨by simp [h1],?_,h4⟩
      rw [HCB.out,aX HH3.out,Bool.eq_false_iff,ne_eq,List.all_eq_true]
      intro h0
      have:=h0 f hf
      rw [hcf] at this
      cases this
theorem xHP (w:World) (n:Nat) (A:Option Addr) (c:Nat) (F:Value) (t1 t2 t3:TypeId):
 CopE.St ⟨w,A,c,w.heap.size,w.heap.size+2,w.heap.size+3,w.heap.size+1⟩ n ((((w.alloc (.cells #[.slice A n c] t1)).alloc (.map #[] 0)).alloc (.cells #[.map (some (w.heap.size+1))] t2)).alloc (.cells #[F] t3)) [] F:=by
 refine ⟨aG,?_,?_,?_,?_,by simp,by simp⟩
 ·exact cell_keep ((((aV _ _).alloc (aW _) _).alloc (by simp) _).alloc (by simp) _) (cW w [.slice A n c] t1 0 _ rfl)
 ·have:=cW ((w.alloc (.cells #[.slice A n c] t1)).alloc (.map #[] 0)) [.map (some (w.heap.size+1))] t2 0 _ rfl
  simp only [bH] at this
  exact cell_keep ((aV _ _).alloc (aW _) _) this
 ·have:=cW (((w.alloc (.cells #[.slice A n c] t1)).alloc (.map #[] 0)).alloc (.cells #[.map (some (w.heap.size+1))] t2)) [F] t3 0 _ rfl
  simp only [bH] at this
  exact this
 ·have:=OwnB.made (w.alloc (.cells #[.slice A n c] t1)) Tryz.prog 3 4
  rw [← zE,bH] at this
  exact (this.alloc _).alloc _
theorem xGI (ts:List Ty) (hok:TyOk ts) (hn:ts.length≤65535) (i:Int) (A:Option Addr) (c:Nat) (w:World) (hs:Slc 5 RTy w A c ts):
 Calls Tryz.prog 180 #[.slice A ts.length c,.int .i64 i] w fun e' w'=>e' = .returned (.bool (copB ts i))∧Below w.heap.size w w':=by
 have hle:=hs.le
 have hbig:=hs.big
 by_cases hr:0≤i∧i<(ts.length:Int)
 case neg=>
  rw [uL (by omega)]
  clear hs
  go_enter Tryz.func180,Tryz.ntmps180
  go_wp2_with fail
  all_goals first
   | (exfalso;omega)
   | (go_ret;exact ⟨rfl,aG⟩)
 case pos=>
 obtain ⟨k,rfl⟩:=bF hr.1
 have hlt:k<ts.length:=by omega
 have HE:CopE.Ok ⟨w,A,c,w.heap.size,w.heap.size+2,w.heap.size+3,w.heap.size+1⟩ ts:=⟨hs,hok,hn,Nat.le_succ _,by simp,by simp,by simp⟩
 have HC:=aF (fun W h=>oW _ ts HE (k+1) k (by omega) hlt W [] h)
 have HCB:Hid ((∀sl,NewT ts [] sl→∀i:Int,CovT ts sl k→copB ts k=true)∧(copB ts k=false→copB ts k=false)):=aF ⟨fun sl h i hc=>xCX hok (sl:=sl) h hc,id⟩
 have hmm:= @run_makeMap Tryz.prog
 have hst:∀(a:Addr) (fn:Fn) (f c:Array Value) (W:World),(store a (.func fn f c)).run Tryz.prog W=stored Tryz.prog W a (.func fn f c) .plain:=fun a fn f c W=>run_store Tryz.prog W a (.func fn f c) _ rfl
 clear hs HE
 go_enter Tryz.func180,Tryz.ntmps180
 go_wp2_with (go_at_call 215;refine (HC.out _ (xHP w ts.length A c _ _ _ _)).mono ?_;rintro e' w1 ⟨q,rfl,hq⟩;have HQ:=aF hq;clear hq)
 all_goals first
  | (exfalso;omega)
  | (go_ret
     rcases HQ.out with ⟨rfl,sl,h1,h2,h3⟩ | ⟨rfl,h1,h2⟩
     ·exact ⟨by rw [HCB.out.1 sl h1 0 h2];rfl,h3.low⟩
     ·exact ⟨by rw [HCB.out.2 h1];rfl,h2⟩)
end
end Go.Proofs.YtbnljlpefpllcaaGreatDoor
