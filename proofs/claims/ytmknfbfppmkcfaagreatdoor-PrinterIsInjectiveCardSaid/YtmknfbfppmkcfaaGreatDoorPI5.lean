/-
  Parts of the proof: V16 Queue V17 V29 W15 W16 V20 Own.
-/
import Derived.Test.YtmknfbfppmkcfaaGreatDoorPI0
import Derived.Test.YtmknfbfppmkcfaaGreatDoorPI4
import Derived.Test.YtmknfbfppmkcfaaGreatDoorPI2
import Derived.Test.YtmknfbfppmkcfaaGreatDoorPI3
import Derived.Deep.LoopGhost
namespace Go.Proofs.YtmknfbfppmkcfaaGreatDoor
set_option maxRecDepth 100000
set_option maxHeartbeats 16000000
section
open Go Go.RowKit
inductive Rch (pairs:List (Int × Int)):Int->Int->Prop
 | refl (a:Int):Rch pairs a a
 | step {a x y:Int}:Rch pairs a x->(x,y)∈pairs->Rch pairs a y
theorem Rch.trans {pairs:List (Int × Int)} {a b c:Int} (h:Rch pairs a b) (h2:Rch pairs b c):Rch pairs a c:=by
 induction h2 with
 | refl=>exact h
 | step _ hp ih=>exact .step ih hp
theorem Rch.one {pairs:List (Int × Int)} {x y:Int} (h:(x,y)∈pairs):Rch pairs x y:= .step (.refl x) h
theorem Rch.closed {pairs:List (Int × Int)} {S:Int->Prop} (hc:∀x y,S x->(x,y)∈pairs->S y) {a b:Int} (h:Rch pairs a b) (ha:S a):S b:=by
 induction h with
 | refl=>exact ha
 | step _ hp ih=>exact hc _ _ ih hp
theorem eQ:∀(n:Nat) (l:List Int),l.Nodup->(∀x∈l,0<=x/\x<n)->l.length<=n
 | 0,l,_,h=>by
   cases l with
   | nil=>simp
   | cons x r=>have:=h x (by simp);omega
 | n+1,l,hn,h=>by
   have h1:=eQ n (l.erase (n:Int)) (hn.erase _) (fun x hx=>by
    have hm:=(hn.mem_erase_iff).1 hx;have:=h x hm.2;have:=hm.1
    omega)
   rw [List.length_erase] at h1;split at h1 <;> omega
theorem vQ (pairs:List (Int × Int)) (x:Int):∀(set:List Int),∃new,nextR pairs x set=set ++ new/\(∀y∈new,(x,y)∈pairs)/\(set.Nodup->(set ++ new).Nodup)/\∀y,(x,y)∈pairs->y∈set ++ new:=by
 unfold nextR;induction pairs with
 | nil=>exact fun set=>⟨[],by simp,by simp,by simp,by simp⟩
 | cons p r ih=>
   intro set;obtain ⟨p1,p2⟩:=p;rw [List.foldl_cons];by_cases hp:p1=x/\p2∉set
   ·rw [bA hp];obtain ⟨new,h1,h2,h3,h4⟩:=ih (set ++ [p2]);refine ⟨p2 :: new,by rw [h1];simp,?_,?_,?_⟩
    ·intro y hy;rcases List.mem_cons.1 hy with rfl | hy
     ·rw [<- hp.1];exact List.mem_cons_self
     ·exact List.mem_cons_of_mem _ (h2 y hy)
    ·intro hn
     have:(set ++ [p2]).Nodup:=by
      rw [List.nodup_append];refine ⟨hn,by simp,fun a ha b hb=>?_⟩;rw [bS] at hb;subst hb;exact fun e=>hp.2 (e ▸ ha)
     have:=h3 this;simpa using this
    ·intro y hy;rcases List.mem_cons.1 hy with he | hy
     ·injection he with _ he
      subst he;simp
     ·have:=h4 y hy;simpa using this
   ·rw [aZ hp];obtain ⟨new,h1,h2,h3,h4⟩:=ih set;refine ⟨new,h1,fun y hy=>List.mem_cons_of_mem _ (h2 y hy),h3,fun y hy=>?_⟩;rcases List.mem_cons.1 hy with he | hy
    ·injection he with e1 e2
     subst e1 e2;by_cases hm:y∈set
     ·exact List.mem_append_left _ hm
     ·exact absurd ⟨rfl,hm⟩ hp
    ·exact h4 y hy
theorem pY {pairs:List (Int × Int)} {n:Nat} (hr:∀p∈pairs,0<=p.1/\p.1<(n:Int)/\0<=p.2/\p.2<(n:Int)) (b:Int):∀(f:Nat) (set:List Int) (i:Nat),(∀x∈set,0<=x/\x<(n:Int))->set.Nodup->i<=set.length->n<f+i->
 (∀j x y,j<i->set[j]?=some x->(x,y)∈pairs->y∈set)->(∀j x,j<i->set[j]?=some x->x≠b)->(outF pairs b f set i=true↔∃z∈set,Rch pairs z b)
 | 0,set,i,h1,h2,h3,h4,_,_=>by
   have:=eQ n set h2 h1;omega
 | f+1,set,i,h1,h2,h3,h4,h5,h6=>by
   rw [outF];cases hx:set[i]? with
   | none=>
     have hi:set.length<=i:=(by simpa using hx);constructor
     ·intro h;cases h
     ·rintro ⟨z,hz,hzb⟩
      have hb:b∈set:=Rch.closed (S:=fun x=>x∈set) (fun x y hxm hp=>by
       obtain ⟨j,hj,he⟩:=List.mem_iff_getElem.1 hxm
       exact h5 j x y (by omega) (by rw [bD hj,he]) hp) hzb hz
      obtain ⟨j,hj,he⟩:=List.mem_iff_getElem.1 hb;exact absurd rfl (h6 j b (by omega) (by rw [bD hj,he]))
   | some x=>
     have hxm:x∈set:=List.mem_of_getElem? hx;simp only;by_cases hxb:x=b
     ·rw [bA hxb];subst hxb;exact ⟨fun _=>⟨x,hxm,.refl x⟩,fun _=>rfl⟩
     ·rw [aZ hxb];obtain ⟨new,n1,n2,n3,n4⟩:=vQ pairs x set;rw [n1];have hi:i<set.length:=(List.getElem?_eq_some_iff.1 hx).1;have hold:∀j u,j<set.length->((set ++ new)[j]?=some u↔set[j]?=some u):=fun j u hj=>by rw [List.getElem?_append_left hj]
      have g1:∀y∈set ++ new,0<=y/\y<(n:Int):=fun y hy=>by
       rcases List.mem_append.1 hy with hy | hy
       ·exact h1 y hy
       ·have:=hr _ (n2 y hy);exact ⟨this.2.2.1,this.2.2.2⟩
      have g2:∀j u y,j<i+1->(set ++ new)[j]?=some u->(u,y)∈pairs->y∈set ++ new:=by
       intro j u y hj hu hp;rw [hold j u (by omega)] at hu;rcases Nat.lt_or_ge j i with hji | hji
       ·exact List.mem_append_left _ (h5 j u y hji hu hp)
       ·have:j=i:=by omega
        subst this;rw [hx] at hu;injection hu with hu
        subst hu;exact n4 y hp
      have g3:∀j u,j<i+1->(set ++ new)[j]?=some u->u≠b:=by
       intro j u hj hu;rw [hold j u (by omega)] at hu;rcases Nat.lt_or_ge j i with hji | hji
       ·exact h6 j u hji hu
       ·have:j=i:=by omega
        subst this;rw [hx] at hu;injection hu with hu
        subst hu;exact hxb
      rw [pY hr b f (set ++ new) (i+1) g1 (n3 h2) (by rw [bB];omega) (by omega) g2 g3];constructor
      ·rintro ⟨z,hz,hzb⟩;rcases List.mem_append.1 hz with hz | hz
       ·exact ⟨z,hz,hzb⟩
       ·exact ⟨x,hxm,(Rch.one (n2 z hz)).trans hzb⟩
      ·rintro ⟨z,hz,hzb⟩;exact ⟨z,List.mem_append_left _ hz,hzb⟩
theorem xCH {pairs:List (Int × Int)} {n:Nat} (hr:∀p∈pairs,0<=p.1/\p.1<(n:Int)/\0<=p.2/\p.2<(n:Int)) {a b:Int} (ha:0<=a) (ha2:a<n) (hb:0<=b) (hb2:b<n):
 outB pairs n a b=true↔Rch pairs a b:=by
 unfold outB;rw [aZ (by omega)];rw [pY hr b _ [a] 0 (by simp;omega) (by simp) (by simp) (by simp) (by intro j x y hj;omega) (by intro j x hj;omega)];simp
end
section
open Go Go.RowKit
structure Qat (w:World) (base:Nat) (e:TypeId) (g p n cap:Nat) (cur:Array Value) (xs:List Value):Prop where
 low:base<=g
 heap:w.heap[g]?=some (.cells cur e (0,0))
 len:xs.length=n
 le:n<=cap
 big:cap<=9223372036854775807
 fit:p+cap<=cur.size
 row:(cur.toList.drop p).take n=xs
def Qu (w:World) (base:Nat) (e:TypeId) (v:Value) (xs:List Value):Prop:=
 (v = .slice none 0 0/\xs=[])\/∃g p n cap cur,v = .slice (some ⟨g,p,none⟩) n cap/\Qat w base e g p n cap cur xs
theorem Qat.cell {w:World} {base g p n cap:Nat} {e:TypeId} {cur:Array Value} {xs:List Value} (h:Qat w base e g p n cap cur xs) (j:Nat) (u:Value) (hj:xs[j]?=some u):w.cell? ⟨g,p+j,none⟩=some u:=by
 have hlt:j<n:=by rw [<- h.len];exact (List.getElem?_eq_some_iff.1 hj).1
 rw [<- h.row,List.getElem?_take,bA hlt,List.getElem?_drop] at hj;simp only [World.cell?,h.heap];simpa using hj
theorem Qu.lt {w:World} {base:Nat} {e:TypeId} {v:Value} {xs:List Value} (h:Qu w base e v xs):∀k,v.ownBlock=some k->base<=k/\k<w.heap.size:=by
 rcases h with ⟨rfl,_⟩ | ⟨g,p,n,cap,cur,rfl,hq⟩
 ·intro k hk;cases hk
 ·intro k hk;injection hk with hk
  subst hk;exact ⟨hq.low,(Array.getElem?_eq_some_iff.1 hq.heap).1⟩
theorem Qu.block {w w':World} {base:Nat} {e:TypeId} {v:Value} {xs:List Value} (h:Qu w base e v xs) (hb:∀k,v.ownBlock=some k->w'.heap[k]?=w.heap[k]?):Qu w' base e v xs:=by
 rcases h with ⟨rfl,hx⟩ | ⟨g,p,n,cap,cur,rfl,hq⟩
 ·exact .inl ⟨rfl,hx⟩
 ·exact .inr ⟨g,p,n,cap,cur,rfl,hq.low,(hb g rfl).trans hq.heap,hq.len,hq.le,hq.big,hq.fit,hq.row⟩
theorem Qu.below {w w':World} {base:Nat} {e:TypeId} {v:Value} {xs:List Value} (h:Qu w base e v xs) (hb:Below w.heap.size w w'):Qu w' base e v xs:=
 h.block (fun k hk=>hb.block k (h.lt k hk).2)
theorem Qu.slice {w:World} {base:Nat} {e:TypeId} {v:Value} {xs:List Value} (h:Qu w base e v xs):∃A c,v = .slice A xs.length c/\xs.length<=c/\c<=9223372036854775807:=by
 rcases h with ⟨rfl,rfl⟩ | ⟨g,p,n,cap,cur,rfl,hq⟩
 ·exact ⟨none,0,rfl,by simp,by omega⟩
 ·exact ⟨_,cap,by rw [hq.len],by rw [hq.len];exact hq.le,hq.big⟩
theorem Qu.one (W:World) (base:Nat) (e:TypeId) (x:Value) (k:Nat) (hk:k=W.heap.size) (hb:base<=k):Qu (W.alloc (.cells #[x] e)) base e (.slice (some ⟨k,0,none⟩) 1 1) [x]:=by
 subst hk;exact .inr ⟨_,0,1,1,#[x],rfl,hb,Array.getElem?_push_size,rfl,by omega,by omega,by simp,by simp⟩
theorem Qu.tail {w:World} {base:Nat} {e:TypeId} {x:Value} {r:List Value} {A:Option Addr} {n c:Nat} (h:Qu w base e (.slice A n c) (x :: r)):
 ∃g p,A=some ⟨g,p,none⟩/\n=r.length+1/\n<=c/\c<=9223372036854775807/\w.cell? ⟨g,p,none⟩=some x/\Qu w base e (.slice (if c=1 then A else A.map (·.add (1 * 1))) (n - 1) (c - 1)) r:=by
 rcases h with ⟨_,h⟩ | ⟨g,p,n',cap,cur,hv,hq⟩
 ·cases h
 ·obtain ⟨rfl,rfl,rfl⟩:A=some ⟨g,p,none⟩/\n=n'/\c=cap:=by simpa using hv
  have hl:=hq.len;simp only [bK] at hl;refine ⟨g,p,rfl,by omega,hq.le,hq.big,by simpa using hq.cell 0 x rfl,?_⟩;have hle:=hq.le;have hbig:=hq.big;have hfit:=hq.fit;by_cases h1:c=1
  ·rw [bA h1];refine .inr ⟨g,p,n - 1,c - 1,cur,rfl,hq.low,hq.heap,by omega,by omega,by omega,by omega,?_⟩;have hr0:r=[]:=bV (by omega);have:n - 1=0:=by omega
   rw [this,List.take_zero,hr0]
  ·rw [aZ h1];refine .inr ⟨g,p+1,n - 1,c - 1,cur,by simp [Addr.add],hq.low,hq.heap,by omega,by omega,by omega,by omega,?_⟩;have hr:=hq.row;rw [<- List.drop_drop];cases hd:cur.toList.drop p with
   | nil=>rw [hd] at hr;simp at hr
   | cons y t=>
     rw [hd,show n=(n - 1)+1 by omega,List.take_succ_cons] at hr;have hr2:=(List.cons.inj hr).2;simpa using hr2
section
variable {P:Program}
theorem gX (w:World) (t ty e:TypeId) (i:TypeInfo) (ht:P.underlying t=some (.slice e)) (hi:P.info? e=some i)
 (g p sLen sCap:Nat) (cur:Array Value) (hg:w.heap[g]?=some (.cells cur e (0,0)))
 (a:Addr) (m c:Nat) (news:List Value) (hl:news.length=m * i.size) (hnews:∀j u,news[j]?=some u->w.cell? (a.add j)=some u) (h1:∀u∈news,u.oneCell'=true)
 (hroom:sLen+m<=sCap) (hfit:p+sLen * i.size+news.length<=cur.size):
 (Builtin.append_ #[t,t] ty #[.slice (some ⟨g,p,none⟩) sLen sCap,.slice (some a) m c]).run P w =
   .ok (.slice (some ⟨g,p,none⟩) (sLen+m) sCap) (w.setRow g (cur.toList.take (p+sLen * i.size) ++ news ++ cur.toList.drop (p+sLen * i.size+news.length)).toArray):=by
 have hf:=run_firstCells_some (P:=P) w i.size m a m c news hl hnews;have hst:=run_storeCells_at P g (p+sLen * i.size) e news 0 cur w hg (by simpa using hfit) h1;simp only [Nat.add_zero] at hst;simp [Builtin.append_,run_underlying ht,sizeOf,typeInfo,hi,Builtin.lenOf,hroom,hf,Addr.add_lit,hst]
theorem Qu.append {w:World} {base:Nat} {t ty e:TypeId} {i:TypeInfo} {z:Value} (ht:P.underlying t=some (.slice e)) (hi:P.info? e=some i) (hz:i.zero=some z) (hsize:i.size=1) (hby:i.bytes<=16) (hzs:z.cells.size=1)
 {v:Value} {xs:List Value} (h:Qu w base e v xs) (a:Addr) (c:Nat) (x:Value) (hx:w.cell? a=some x) (h1:x.oneCell'=true) (hlen:xs.length+1<=1099511627776) (hb:base<=w.heap.size):
 ∃v' w',(Builtin.append_ #[t,t] ty #[v,.slice (some a) 1 c]).run P w = .ok v' w'/\Qu w' base e v' (xs ++ [x])/\w.grownBy w' v.ownBlock:=by
 have hnews:∀j u,[x][j]?=some u->w.cell? (a.add j)=some u:=fun j u hj=>by
  cases j with
  | zero=>
    simp at hj;subst hj;simpa [Addr.add] using hx
  | succ j=>simp at hj
 have grown:∀(old:Nat) (row:Option Nat),Qu (w.drew.alloc (.cells (xs.toArray ++ [x].toArray ++ Builtin.zeroCells z.cells (grownCap w (xs.length+1) old e - (xs.length+1))) e)) base e (.slice (some ⟨w.heap.size,0,none⟩) (xs.length+1) (grownCap w (xs.length+1) old e)) (xs ++ [x])/\
  w.grownBy (w.drew.alloc (.cells (xs.toArray ++ [x].toArray ++ Builtin.zeroCells z.cells (grownCap w (xs.length+1) old e - (xs.length+1))) e)) row:=by
  intro old row;have hge:=grownCap_ge w (xs.length+1) old e;have hcm:grownCap w (xs.length+1) old e<=maxLen:=grownCap_le_maxLen w (xs.length+1) old e (by unfold maxLen;omega)
  have hs:(xs.toArray ++ [x].toArray ++ Builtin.zeroCells z.cells (grownCap w (xs.length+1) old e - (xs.length+1))).size=grownCap w (xs.length+1) old e:=by
   simp only [Array.size_append,List.size_toArray,size_zeroCells,hzs,cG];omega
  refine ⟨.inr ⟨w.heap.size,0,xs.length+1,_,_,rfl,hb,heap_alloc_new w.drew _,by simp,hge,by unfold maxLen at hcm;omega,by rw [hs];omega,?_⟩,⟨rfl,rfl,rfl,by simp,fun k hk _=>heap_alloc_old w.drew _ hk⟩⟩;simp only [Array.toList_append,bX];have:(xs ++ [x]).length=xs.length+1:=by simp
  rw [<- this];exact List.take_left
 rcases h with ⟨rfl,rfl⟩ | ⟨g,p,n,cap,cur,rfl,hq⟩
 ·have hrun:=run_append_nil (P:=P) w t ty e i z ht hi hz a 1 c [x] (by simp [hsize]) hnews (by omega) (by omega) (by omega);refine ⟨_,_,hrun,?_⟩;have:=grown 0 (Value.slice none 0 0).ownBlock;simpa using this
 ·have hl:=hq.len;by_cases hroom:n+1<=cap
  ·have hfit:=hq.fit;have hrun:=gX (P:=P) w t ty e i ht hi g p n cap cur hq.heap a 1 c [x] (by simp [hsize]) hnews (by simpa using h1) hroom (by rw [hsize];simp;omega);rw [hsize,Nat.mul_one] at hrun;refine ⟨_,_,hrun,.inr ⟨g,p,n+1,cap,(cur.toList.take (p+n) ++ [x] ++ cur.toList.drop (p+n+[x].length)).toArray,rfl,hq.low,?_,by simp [hl],hroom,hq.big,?_,?_⟩,?_⟩
   ·exact setRow_heap w g cur _ e (0,0) hq.heap
   ·simp;omega
   ·have hA:(cur.toList.take (p+n)).drop p=xs:=by
     rw [<- hq.row,List.drop_take,show p+n - p=n by omega]
    have hp:p<=(cur.toList.take (p+n)).length:=by simp;omega
    simp only [cG,bM];rw [List.drop_append_of_le_length hp,hA,List.take_append,List.take_of_length_le (by omega),hl,show n+1 - n=1 by omega];rfl
   ·exact ⟨rfl,rfl,rfl,by simp,fun k _ hk=>setRow_other w g k _ (fun h=>hk (by rw [h];rfl))⟩
  ·have hby2:(n+1) * i.bytes<=140737488355328:=by
    have h2:(n+1) * i.bytes<=(n+1) * 16:=Nat.mul_le_mul_left _ hby;omega
   have hold:∀j u,xs[j]?=some u->w.cell? ((⟨g,p,none⟩:Addr).add j)=some u:=fun j u hj=>by rw [Addr.add_lit];exact hq.cell j u hj
   have hfit:=growslice_fits (need:=n+1) (old:=cap) (bytes:=i.bytes) (by omega) hby2;have h63:((n+1:Nat):Int)<=9223372036854775807:=by omega
   have hg1:cap<n+1:=by omega
   have hlo:xs.length=n * i.size:=by rw [hsize,hl,Nat.mul_one]
   have hln:[x].length=1 * i.size:=by rw [hsize];rfl
   have hrun:=run_append_grow (P:=P) w t ty e i z ht hi hz ⟨g,p,none⟩ n cap xs hlo hold a 1 c [x] hln hnews hg1 h63 hfit;subst hl;exact ⟨_,_,hrun,grown cap _⟩
end
theorem mL {P:Program} (w:World) {ops:Array Oper} {rest:List Oper} {o:Oper} {a:Act} {Q:Exit->Act->World->Prop} (hgd:o.guard=none) (s x:Operand) (t:TypeId)
 (ho:o.op = .call { callee:= .builtin .append,args:= #[s,x],argTypes:= #[t,t] }) (base:Nat) (e:TypeId) (i:TypeInfo) (z:Value) (ht:P.underlying t=some (.slice e)) (hi:P.info? e=some i) (hz:i.zero=some z) (hsize:i.size=1) (hby:i.bytes<=16) (hzs:z.cells.size=1)
 (v:Value) (xs:List Value) (hs:a.eval s=v) (h:Qu w base e v xs) (ad:Addr) (c:Nat) (y:Value) (hx:a.eval x = .slice (some ad) 1 c) (hy:w.cell? ad=some y) (h1:y.oneCell'=true) (hlen:xs.length+1<=1099511627776) (hb:base<=w.heap.size)
 (hK:∀v' w',Qu w' base e v' (xs ++ [y])->w.grownBy w' v.ownBlock->wpList P ops Q rest (a.put o.dst v') w'):wpList P ops Q (o :: rest) a w:=by
 refine wpList_plain hgd fun K' hK'=>?_
 obtain ⟨v',w',hrun,h2,h3⟩:=h.append (ty:=o.type) ht hi hz hsize hby hzs ad c y hy h1 hlen hb;unfold Oper.wp execOp;simp only [ho,resolve,invoke,builtin,Sem.run_bind,Sem.run_pure,Result.andThen_ok,List.map_toArray,cJ,cK,hs,hx,hrun];exact hK' _ _ (hK v' w' h2 h3)
end
section
open Go Go.RowKit Go.Maps
theorem rT (r:Nat) (n a:Int) (w:World) (x0:w.cell? ⟨r,0,none⟩=some (.int .i64 n)):
 Calls Tryz.prog 210 #[.pointer (some ⟨r,0,none⟩),.int .i64 a] w fun e' w'=>e' = .returned (.bool (decide (0<=a) && decide (a<n)))/\w'=w:=by
 obtain ⟨q,hq⟩:∃q,(decide (0<=a) && decide (a<n))=q:=⟨_,rfl⟩;rw [hq];have HQ:=aF hq;clear hq;go_enter Tryz.func210,Tryz.ntmps210
 go_wp2_with fail
 all_goals
  go_ret;refine ⟨?_,rfl⟩;rw [<- HQ.out]
  first
   | (simp_all;done)
   | (simp_all;omega)
structure Bfs (pairs:List (Int × Int)) (n:Nat) (a b:Int) (sl qs:List Int) (ex:Int->Prop):Prop where
 nd:sl.Nodup
 rng:∀x∈sl,0<=x/\x<(n:Int)
 rch:∀x∈sl,Rch pairs a x
 sub:∀x∈qs,x∈sl
 cls:∀x∈sl,x∉qs->¬ex x->∀y,(x,y)∈pairs->y∈sl
 tgt:b∈sl->b=a
 hd:a∈sl
theorem Bfs.start {pairs:List (Int × Int)} {n:Nat} {a b:Int} (h0:0<=a) (h1:a<n):Bfs pairs n a b [a] [a] (fun _=>False):=
 ⟨by simp,by simp;omega,fun x hx=>by rw [bS] at hx;subst hx;exact .refl x,fun x hx=>hx,fun x hx hq=>absurd hx hq,fun h=>by simpa using h,by simp⟩
theorem Bfs.pop {pairs:List (Int × Int)} {n:Nat} {a b x:Int} {sl qs:List Int} (h:Bfs pairs n a b sl (x :: qs) (fun _=>False)):Bfs pairs n a b sl qs (fun u=>u=x):=
 ⟨h.nd,h.rng,h.rch,fun y hy=>h.sub y (by simp [hy]),fun y hy hq hne=>h.cls y hy (by simp only [List.mem_cons,not_or];exact ⟨hne,hq⟩) (fun f=>f),h.tgt,h.hd⟩
theorem Bfs.push {pairs:List (Int × Int)} {n:Nat} {a b x y:Int} {sl qs:List Int} (h:Bfs pairs n a b sl qs (fun u=>u=x)) (hx:x∈sl) (hr:∀p∈pairs,0<=p.1/\p.1<(n:Int)/\0<=p.2/\p.2<(n:Int)) (hp:(x,y)∈pairs) (hy:y∉sl) (hb:y≠b):
 Bfs pairs n a b (y :: sl) (qs ++ [y]) (fun u=>u=x):=by
 refine ⟨List.nodup_cons.2 ⟨hy,h.nd⟩,?_,?_,?_,?_,?_,by simp [h.hd]⟩
 ·intro u hu;rcases List.mem_cons.1 hu with rfl | hu
  ·have:=hr _ hp;exact ⟨this.2.2.1,this.2.2.2⟩
  ·exact h.rng u hu
 ·intro u hu;rcases List.mem_cons.1 hu with rfl | hu
  ·exact .step (h.rch x hx) hp
  ·exact h.rch u hu
 ·intro u hu;rcases List.mem_append.1 hu with hu | hu
  ·exact List.mem_cons_of_mem _ (h.sub u hu)
  ·rw [bS] at hu;subst hu;simp
 ·intro u hu hq hne z hz;simp only [List.mem_append,bS,not_or] at hq;rcases List.mem_cons.1 hu with rfl | hu
  ·exact absurd rfl hq.2
  ·exact List.mem_cons_of_mem _ (h.cls u hu hq.1 hne z hz)
 ·intro hbs;rcases List.mem_cons.1 hbs with e | hbs
  ·exact absurd e.symm hb
  ·exact h.tgt hbs
theorem Bfs.close {pairs:List (Int × Int)} {n:Nat} {a b x:Int} {sl qs:List Int} (h:Bfs pairs n a b sl qs (fun u=>u=x)) (hx:∀y,(x,y)∈pairs->y∈sl):Bfs pairs n a b sl qs (fun _=>False):=
 ⟨h.nd,h.rng,h.rch,h.sub,fun u hu hq _ y hy=>by
   by_cases e:u=x
   ·subst e;exact hx y hy
   ·exact h.cls u hu hq e y hy,h.tgt,h.hd⟩
theorem Bfs.done {pairs:List (Int × Int)} {n:Nat} {a b:Int} {sl:List Int} (h:Bfs pairs n a b sl [] (fun _=>False)):b∈sl↔Rch pairs a b:=
 ⟨h.rch b,fun hr=>hr.closed (S:=fun u=>u∈sl) (fun x y hx hp=>h.cls x hx (by simp) (fun f=>f) y hp) h.hd⟩
theorem Bfs.len {pairs:List (Int × Int)} {n:Nat} {a b:Int} {sl qs:List Int} {ex:Int->Prop} (h:Bfs pairs n a b sl qs ex):sl.length<=n:=eQ n sl h.nd h.rng
theorem xBV {pairs:List (Int × Int)} {x y:Int}:y∈relL pairs false x↔(x,y)∈pairs:=by
 simp only [relL,Bool.false_eq_true,if_false,List.mem_map,List.mem_filter,decide_eq_true_eq];constructor
 ·rintro ⟨⟨p,q⟩,⟨h1,h2⟩,h3⟩;simp only at h2 h3;subst h2 h3;exact h1
 ·intro h;exact ⟨(x,y),⟨h,rfl⟩,rfl⟩
def inF (sl:List Int):Int->Bool:=fun x=>decide (x∈sl)
def i64F (g:Int->Bool):Lit->Bool
 | .int .i64 n=>g n
 | _=>false
theorem lW (sl:List Int) (y:Int):i64F (inF (y :: sl)) (.int .i64 y)=true:=by simp [i64F,inF]
theorem oK (sl:List Int) (y:Int):∀k,k≠Lit.int .i64 y->i64F (inF (y :: sl)) k=i64F (inF sl) k:=by
 intro k hk;cases k <;> try rfl
 rename_i q n;cases q <;> try rfl
 have:n≠y:=fun e=>hk (by rw [e])
 simp [i64F,inF,this]
theorem zA:i64F (inF [])=fun _=>false:=by
 funext k
 cases k <;> try rfl
 rename_i q n;cases q <;> rfl
theorem gT:∀w,(zeroValue 4).run Tryz.prog w = .ok (.bool false) w:=Tryz.zeroValue4
theorem kS (pairs:List (Int × Int)) (n:Nat) (a b:Int) (r:Nat) (w:World) (hR:Rel3 w r n (relL pairs)) (hr:∀p∈pairs,0<=p.1/\p.1<(n:Int)/\0<=p.2/\p.2<(n:Int)) (hn:n<=65536) (_hl:pairs.length<=65535):
 Calls Tryz.prog 189 #[.pointer (some ⟨r,0,none⟩),.int .i64 a,.int .i64 b] w fun e' w'=>e' = .returned (.bool (outB pairs n a b))/\Below w.heap.size w w':=by
 obtain ⟨M,hM,hLK⟩:=hR;obtain ⟨x0,x1,x2⟩:=kY hM;have HX0:=aF x0;by_cases hab:0<=a/\a<(n:Int)/\0<=b/\b<(n:Int)
 case neg=>
  have HF:Hid (outB pairs n a b=false):=aF (by unfold outB;rw [bA (by omega)]);rw [HF.out];clear hLK hM;by_cases ha:0<=a/\a<(n:Int)
  ·have e1:(decide (0<=a) && decide (a<(n:Int)))=true:=by simp [ha]
   have e2:(decide (0<=b) && decide (b<(n:Int)))=false:=by simp;omega
   have E1:=aF e1;have E2:=aF e2;clear e1 e2 ha hab;go_enter Tryz.func189,Tryz.ntmps189
   go_wp2_with fail
   go_step3
   go_wp2_with (go_at_call 210;refine (rT r n _ w HX0.out).mono ?_;rintro e' w1 ⟨rfl,hw⟩;obtain rfl:=hw.symm;first | rw [E1.out] | rw [E2.out])
   rw [Exit.noGoto_ret];go_ret;exact ⟨rfl,aX _ _⟩
  ·have e1:(decide (0<=a) && decide (a<(n:Int)))=false:=by simp;omega
   have E1:=aF e1;clear e1 ha hab;go_enter Tryz.func189,Tryz.ntmps189
   go_wp2_with fail
   go_step3
   go_wp2_with (go_at_call 210;refine (rT r n _ w HX0.out).mono ?_;rintro e' w1 ⟨rfl,hw⟩;obtain rfl:=hw.symm;rw [E1.out])
   rw [Exit.noGoto_ret];go_ret;exact ⟨rfl,aX _ _⟩
 case pos=>
  obtain ⟨ha0,ha1,hb0,hb1⟩:=hab;have HQ:=aF (xCH hr ha0 ha1 hb0 hb1);generalize outB pairs n a b=q at HQ ⊢;have e1:(decide (0<=a) && decide (a<(n:Int)))=true:=by simp [ha0,ha1]
  have e2:(decide (0<=b) && decide (b<(n:Int)))=true:=by simp [hb0,hb1]
  have E1:=aF e1;have E2:=aF e2;have HLK:=aF hLK;have HM:=aF hM;have keya:=key3 (a:=a) ha0 (by omega);obtain ⟨i0,hi,hz0,hz1,hz2⟩:=info_parts dW;have hmm:= @run_makeMap Tryz.prog;clear e1 e2 hLK hM;have hmade:=OwnB.made w Tryz.prog 3 4;rw [<- zA] at hmade;obtain ⟨w0,hrun0,hown0,hg0⟩:=hmade.store law3 Tryz.underlying251 Tryz.underlying4 (by unfold maxLen;omega) keya trivial true (lW [] a) (oK [] a);have hB0:Below w.heap.size w w0:=((aX _ _).alloc (aY _) _).trans (eF hg0 (aY _) (by simp));have hs0:w.heap.size+1<=w0.heap.size:=by have:=hg0.size;simpa using this
  have HOWN0:=aF hown0;have HB0:=aF hB0;clear hmade hown0 hg0 hB0;go_enter Tryz.func189,Tryz.ntmps189
  go_wp2_with fail
  go_step3
  go_wp2_with (first
   | (go_at_call 210;refine (rT r n _ w HX0.out).mono ?_;rintro e' w1 ⟨rfl,hw⟩;obtain rfl:=hw.symm;first | rw [E1.out] | rw [E2.out])
   | fail)
  go_step3
  go_wp2_with fail
  have keyb:=key3 (a:=b) hb0 (by omega);have HBF0:=aF (Bfs.start (pairs:=pairs) (b:=b) ha0 ha1);have HQ0:=aF (Qu.one w0 (w.heap.size+1) 3 (.int .i64 a) w0.heap.size rfl hs0);go_loopg [8] (2 * (n - 1)+1) (fun gk v wr=>∃(sl qs:List Int),gk=2 * (n - sl.length)+qs.length/\gk<=2 * n+1/\Hid (Bfs pairs n a b sl qs (fun _=>False))/\Hid (Qu wr (w.heap.size+1) 3 v (qs.map (Value.int .i64)))/\Hid (OwnB Tryz.prog 3 4 wr w.heap.size sl.length (i64F (inF sl)))/\Hid (Below w.heap.size w wr)/\w.heap.size+1<=wr.heap.size)
  case atStart=>exact ⟨[a],[a],by simp,by omega,HBF0,HQ0,aF (HOWN0.out.alloc _),aF (HB0.out.alloc HB0.out.size _),by simp;omega⟩
  case round=>
   clear HBF0 HQ0 HOWN0 HB0 hrun0;obtain ⟨sl,qs,hgk,hgk2,HBF,HQU,HOWN,HBL,hsz⟩:=hrel;cases qs with
   | nil=>
     obtain ⟨A,c,rfl,hc1,hc2⟩:=HQU.out.slice
     have HFIN:Hid (decide (b∈sl)=q):=aF (by
      rw [bR,decide_eq_true_eq,HBF.out.done]
      exact HQ.out.symm)
     have hlk:=HOWN.out.look law3 Tryz.underlying251 Tryz.underlying4 (gT _) keyb;simp only [i64F,inF] at hlk;rw [HFIN.out] at hlk;simp only [cK,bP] at hc1 hc2 ⊢;clear HQU HOWN HBF;go_wp2_with fail
     rw [Exit.noGoto_ret];go_ret;exact ⟨rfl,HBL.out⟩
   | cons x qs=>
     obtain ⟨A,c,rfl,hc1,hc2⟩:=HQU.out.slice;obtain ⟨g,p,rfl,hlen,hle,hbig,y0,hq2⟩:=HQU.out.tail;have hbf:=HBF.out.pop;have hx:=HBF.out.sub x (by simp);have hxr:=HBF.out.rng x hx;have hlen0:=HBF.out.len;have keyx:=key3 (a:=x) hxr.1 (by omega);obtain ⟨A2,c2,hlk,hsl⟩:=HLK.out false x hxr.1 (by omega);have hlkr:=hlk wr HBL.out;have hys:=aF (nX pairs false x);have HMEM:=aF (fun y=> @xBV pairs x y);have hle2:=hsl.le;have hbig2:=hsl.big;have HSL:=aF hsl;have HBF2:=aF hbf;have HXM:=aF hx;have hcut:=xI (P:=Tryz.prog) 58 3 (some ⟨g,p,none⟩) (qs.length+1) c 1 1 Tryz.underlying58 Tryz.sizeOf3 (by omega);simp only [cJ,bK,cF] at hq2 hle hgk hc1 ⊢;have HQ2:Hid (Qu wr (w.heap.size+1) 3 (.slice (cutA (some ⟨g,p,none⟩) c 1 1) (qs.length+1 - 1) (c - 1)) (qs.map (Value.int .i64))):=aF hq2;obtain ⟨v2,hv2⟩:∃v2,Value.slice (cutA (some ⟨g,p,none⟩) c 1 1) (qs.length+1 - 1) (c - 1)=v2:=⟨_,rfl⟩;rw [hv2] at HQ2 hcut
     have hidx0:∀(W:World) (A0:Option Addr),A0=some ⟨g,p,none⟩->(Instr.indexAt 58 (.slice A0 (qs.length+1) c) (.int .i64 0)).run Tryz.prog W = .ok (.pointer (some ⟨g,p,none⟩)) W:=fun W A0 h=>by
      subst h;go_simp
     obtain ⟨AA,hAA⟩:∃AA,some (⟨g,p,none⟩:Addr)=AA:=⟨_,rfl⟩;have hidx:=fun W=>hidx0 W AA hAA.symm
     rw [hAA] at hcut ⊢;have hcut1:∀W,(Instr.slice 58 (.slice AA (qs.length+1) c) (some (.int .i64 1)) none none).run Tryz.prog W = .ok v2 W:=fun W=>hcut W
     clear hAA hidx0 hcut;have z1:wr.cell? ⟨r,1,none⟩=some (.map (some (M false))):=(HBL.out.cell (p:=⟨r,1,none⟩) (cD _ _ x1)).trans x1;clear hbf hx hxr hlk hsl hq2 HBF hv2;generalize relL pairs false x=ys at *;go_wp2_with fail
     go_loopg [8,42] ys.length (fun gj v i wr2=>∃(sl2 qs2:List Int) (k:Nat),gj=ys.length - k/\k<=ys.length/\i = .int .i64 k/\2 * (n - sl2.length)+qs2.length<=2 * (n - sl.length)+qs.length/\Hid (Bfs pairs n a b sl2 qs2 (fun u=>u=x))/\Hid (x∈sl2)/\Hid (Qu wr2 (w.heap.size+1) 3 v (qs2.map (Value.int .i64)))/\Hid (OwnB Tryz.prog 3 4 wr2 w.heap.size sl2.length (i64F (inF sl2)))/\Hid (Below w.heap.size w wr2)/\w.heap.size+1<=wr2.heap.size/\Hid (∀j y,j<k->ys[j]?=some y->y∈sl2))
     case atStart=>exact ⟨sl,qs,0,by omega,by omega,rfl,aY _,HBF2,HXM,HQ2,HOWN,HBL,hsz,aF (fun j y hj=>absurd hj (by omega))⟩
     case round=>
      clear HBF2 HXM HQ2 HOWN HBL hcut1 hlkr z1 y0 hidx;obtain ⟨sl2,qs2,k,hgj,hk,rfl,hms,HBF,HXM,HQU,HOWN,HBL,hsz2,HDN⟩:=hrel;by_cases hlt:k<ys.length
      ·have hb2:=HBL.out;obtain ⟨g2,o2,rfl,hb2',hy⟩:=(HSL.out.keep RInt.keeps hb2).sl.at_ hlt;have HXY:=aF ((HMEM.out ys[k]).1 (bN hlt))
       have HDN2:Hid (∀sl3:List Int,(∀u∈sl2,u∈sl3)->ys[k]∈sl3->∀j y,j<k+1->ys[j]?=some y->y∈sl3):=aF (fun sl3 h1 h2 j y hj hyj=>by
        rcases Nat.lt_or_ge j k with hjk | hjk
        ·exact h1 y (HDN.out j y hjk hyj)
        ·have:j=k:=by omega
         rw [this,bD hlt] at hyj;injection hyj with hyj
         rw [<- hyj]
         exact h2)
       obtain ⟨y,hyy⟩:∃y,ys[k]=y:=⟨_,rfl⟩;rw [hyy] at hy HXY HDN2;have y0:wr.cell? ⟨g2,o2+k,none⟩=some (.int .i64 y):=(by simpa [RInt] using hy);have hyr:=hr _ HXY.out;simp only at hyr;have keyy:=key3 (a:=y) hyr.2.2.1 (by omega);have hown:=HOWN.out;have hlen2:=HBF.out.len;clear hy hyy hyr HDN;by_cases hyb:y=b
       ·have HF:Hid (q=true):=aF (HQ.out.2 (hyb ▸ Rch.step (HBF.out.rch x HXM.out) HXY.out));subst hyb;clear HQU HBF HOWN
        go_wp2_with (first
         | (at_mapUpdate;refine eJ _ rfl _ _ _ 251 rfl 3 4 law3 Tryz.underlying251 Tryz.underlying4 _ _ _ rfl hown (by unfold maxLen;omega) _ _ _ rfl rfl keyy trivial _ (lW sl2 y) (oK sl2 y) ?_;intro w3 hown3 hg3)
         | (at_lookup;refine dH _ rfl _ _ 251 rfl 3 4 law3 Tryz.underlying251 Tryz.underlying4 (gT _) _ _ _ rfl hown3 _ _ rfl keyy ?_;rw [lW]))
        rw [Exit.noGoto_ret];go_ret;exact ⟨by rw [HF.out];rfl,HBL.out.trans (eF hg3 (aY _) (by omega) |>.mono (aY _))⟩
       ·have e3:(y == b)=false:=by simp [hyb]
        have HYB:=aF hyb;clear hyb;by_cases hm:y∈sl2
        ·have HM2:=aF hm;have HFB:Hid (i64F (inF sl2) (.int .i64 y)=true):=aF (by simp [i64F,inF,hm]);clear hm;go_wp2_with (at_lookup;refine dH _ rfl _ _ 251 rfl 3 4 law3 Tryz.underlying251 Tryz.underlying4 (gT _) _ _ _ rfl hown _ _ rfl keyy ?_;rw [HFB.out])
         go_roundg (ys.length - (k+1))
         case measure=>omega
         case rel=>exact ⟨sl2,qs2,k+1,rfl,by omega,by go_num,hms,HBF,HXM,HQU,HOWN,HBL,hsz2,aF (HDN2.out sl2 (fun u h=>h) HM2.out)⟩
        ·have HM2:=aF hm;have HFB:Hid (i64F (inF sl2) (.int .i64 y)=false):=aF (by simp [i64F,inF,hm]);have HBF3:=aF (HBF.out.push HXM.out hr HXY.out hm HYB.out);have hlen3:=HBF3.out.len;simp only [bK] at hlen3;clear hm
         go_wp2_with (first
          | (at_lookup;refine dH _ rfl _ _ 251 rfl 3 4 law3 Tryz.underlying251 Tryz.underlying4 (gT _) _ _ _ rfl hown _ _ rfl keyy ?_;rw [HFB.out])
          | (at_mapUpdate;refine eJ _ rfl _ _ _ 251 rfl 3 4 law3 Tryz.underlying251 Tryz.underlying4 _ _ _ rfl hown (by unfold maxLen;omega) _ _ _ rfl rfl keyy trivial _ (lW sl2 y) (oK sl2 y) ?_;intro w3 hown3 hg3)
          | (at_builtin;refine mL _ rfl _ _ 58 rfl (w.heap.size+1) 3 i0 (.int .i64 0) Tryz.underlying58 hi hz0 hz1 (by omega) rfl _ _ rfl ((HQU.out.block (fun k hk=>hg3.block k (HQU.out.lt k hk).2 (by have:=(HQU.out.lt k hk).1;simp;omega))).below ((aX _ _).alloc (aY _) _)) ⟨_,0,none⟩ 1 (.int .i64 y) rfl (eD w3 _ _ _ rfl 0 _ rfl) rfl (by rw [cF];omega) (by have:=hg3.size;simp;omega) ?_;intro v4 w4 hq4 hg4))
         have hs3:=hg3.size;have hs4:=hg4.size;simp only [bI] at hs4;have hrow:∀j,u8.ownBlock=some j->w.heap.size+1<=j:=fun j hj=>(HQU.out.lt j hj).1
         have hB3:Below w.heap.size w (w3.alloc (.cells #[.int .i64 y] 3)):=(HBL.out.trans (eF hg3 (aY _) (by omega))).alloc (by omega) _;have HB4:=aF (hB3.grown hg4 (by simp;omega) (fun j hj=>by have:=hrow j hj;omega));have HO4:=aF ((hown3.alloc _).block (hg4.block _ (by simp;omega) (fun e=>by have:=hrow _ e.symm;omega)));go_roundg (ys.length - (k+1))
         case measure=>omega
         case rel=>exact ⟨y :: sl2,qs2 ++ [y],k+1,rfl,by omega,by go_num,by simp only [bK,bB,bP];omega,HBF3,aF (List.mem_cons_of_mem _ HXM.out),aF (by rw [bU];exact hq4),HO4,HB4,by omega,aF (HDN2.out (y :: sl2) (fun u h=>List.mem_cons_of_mem _ h) (by simp))⟩
      ·have HCL:=aF (HBF.out.close (fun y hy=>by
        obtain ⟨j,hj,he⟩:=List.mem_iff_getElem.1 ((HMEM.out y).2 hy)
        exact HDN.out j y (by omega) (by rw [bD hj,he])))
       clear HBF HDN;go_wp2_with fail
       go_roundg (2 * (n - sl2.length)+qs2.length)
       case measure=>omega
       case rel=>exact ⟨sl2,qs2,rfl,by omega,HCL,HQU,HOWN,HBL,hsz2⟩
def FineT (ts:List Ty) (sl:List Int) (x:Int):Prop:=0<=x/\∀(h:x.toNat<ts.length),ts[x.toNat].kind≠3->∀f∈ts[x.toNat].flds,CovT ts sl f
theorem FineT.mono {ts:List Ty} {sl sl':List Int} {x:Int} (h:FineT ts sl x) (hs:∀y∈sl,y∈sl'):FineT ts sl' x:=
 ⟨h.1,fun hl hk f hf=>(h.2 hl hk f hf).mono hs⟩
def NewT (ts:List Ty) (sl sl':List Int):Prop:=(∀x∈sl,x∈sl')/\∀x∈sl',x∈sl\/FineT ts sl' x
theorem NewT.refl (ts:List Ty) (sl:List Int):NewT ts sl sl:=⟨fun _ h=>h,fun _ h=>Or.inl h⟩
theorem NewT.trans {ts:List Ty} {a b c:List Int} (h:NewT ts a b) (k:NewT ts b c):NewT ts a c:=
 ⟨fun x hx=>k.1 x (h.1 x hx),fun x hx=>by
   rcases k.2 x hx with hb | hb
   ·rcases h.2 x hb with ha | ha
    ·exact Or.inl ha
    ·exact Or.inr (ha.mono k.1)
   ·exact Or.inr hb⟩
theorem NewT.mark {ts:List Ty} {a b:List Int} {i:Nat} (hi:i<ts.length) (h:NewT ts ((i:Int) :: a) b) (hf:∀f∈ts[i].flds,CovT ts b f):NewT ts a b:=
 ⟨fun x hx=>h.1 x (List.mem_cons_of_mem _ hx),fun x hx=>by
   rcases h.2 x hx with ha | ha
   ·rcases List.mem_cons.1 ha with rfl | ha
    ·exact Or.inr ⟨by omega,fun _ _ f hff=>hf f (by simpa using hff)⟩
    ·exact Or.inl ha
   ·exact Or.inr ha⟩
theorem xCJ {ts:List Ty} (hok:TyOk ts) {sl:List Int} (h:NewT ts [] sl) {i:Int} (hc:CovT ts sl i):copB ts i=true:=
 tZ hok (fun x hx hl h0 hk f hf=>by
  rcases h.2 x hx with hn | hn
  ·exact absurd hn (by simp)
  ·exact hn.2 hl hk f hf) (i.toNat+1) i (by omega) hc
theorem eH {w w':World} {row:Option Nat} (hg:w.grownBy w' row) {p:Addr} {v:Value} (h:w.cell? p=some v) (hne:some p.block≠row):w'.cell? p=some v:=
 (World.cell?_of_block (hg.block _ (cD _ _ h) hne)).trans h
theorem eP {w w':World} (h:Below w.heap.size w w') (row:Option Nat):w.grownBy w' row:=
 ⟨h.os,h.tape,h.output,h.size,fun i hi _=>h.block i hi⟩
structure CopE where
 w0:World
 A:Option Addr
 c:Nat
 pl:Nat
 ps:Nat
 pc:Nat
 M:Nat
structure CopE.Ok (E:CopE) (ts:List Ty):Prop where
 ty:Slc 5 RTy E.w0 E.A E.c ts
 tyok:TyOk ts
 n:ts.length<=65535
 M:E.w0.heap.size<=E.M
 l:E.M≠E.pl
 s:E.M≠E.ps
 c:E.M≠E.pc
structure CopE.St (E:CopE) (n:Nat) (W:World) (sl:List Int) (F:Value):Prop where
 low:Below E.w0.heap.size E.w0 W
 l:W.cell? ⟨E.pl,0,none⟩=some (.slice E.A n E.c)
 s:W.cell? ⟨E.ps,0,none⟩=some (.map (some E.M))
 c:W.cell? ⟨E.pc,0,none⟩=some F
 own:OwnB Tryz.prog 3 4 W E.M sl.length (i64F (inF sl))
 nd:sl.Nodup
 rng:∀x∈sl,0<=x/\x<(n:Int)
theorem CopE.St.len {E:CopE} {n:Nat} {W:World} {sl:List Int} {F:Value} (h:E.St n W sl F):sl.length<=n:=eQ n sl h.nd h.rng
theorem CopE.St.keep {E:CopE} {n:Nat} {W W':World} {sl:List Int} {F:Value} (h:E.St n W sl F) (hb:Below W.heap.size W W'):E.St n W' sl F:=
 ⟨h.low.trans (hb.mono h.low.size),cM hb h.l,cM hb h.s,cM hb h.c,h.own.below hb,h.nd,h.rng⟩
theorem CopE.St.put {E:CopE} {ts:List Ty} {n:Nat} {W W':World} {sl:List Int} {F:Value} (h:E.St n W sl F) (hE:E.Ok ts) {i:Int} (hi:i∉sl) (hr:0<=i/\i<(n:Int))
 (hown:OwnB Tryz.prog 3 4 W' E.M (sl.length+1) (i64F (inF (i :: sl)))) (hg:W.grownBy W' (some E.M)):E.St n W' (i :: sl) F:=by
 have hc:∀(p:Nat) (v:Value),E.M≠p->W.cell? ⟨p,0,none⟩=some v->W'.cell? ⟨p,0,none⟩=some v:=fun p v hne hv=>
  eH hg hv (by simpa using (Ne.symm hne))
 refine ⟨h.low.trans (eF hg hE.M h.low.size),hc _ _ hE.l h.l,hc _ _ hE.s h.s,hc _ _ hE.c h.c,hown,List.nodup_cons.2 ⟨hi,h.nd⟩,fun x hx=>?_⟩;rcases List.mem_cons.1 hx with rfl | hx
 ·exact hr
 ·exact h.rng x hx
def CopE.Q (E:CopE) (ts:List Ty) (F:Value) (sl:List Int) (i:Int) (q:Bool) (W':World):Prop:=
 (q=true/\∃sl',NewT ts sl sl'/\CovT ts sl' i/\E.St ts.length W' sl' F)\/(q=false/\copB ts i=false/\Below E.w0.heap.size E.w0 W')
end
section
open Go.RowKit Go.Shelf
theorem pO (ts:List Ty) (ls:List Lc) (l:Int) (ps:List Pj) (A B C:Option Addr) (c d e:Nat) (w:World) (hts:Slc 5 RTy w A c ts) (hls:Slc 2 RLc w B d ls) (hps:Slc 2 RPj w C e ps) (hok:Okay ts ls) (hty:(tyOf ts ls l ps).2=0):
 Calls Tryz.prog 169 #[.slice A ts.length c,.slice B ls.length d,.agg #[.int .i64 l,.slice C ps.length e]] w fun e' w'=>∃A' c',e' = .returned (.slice A' (refsOf ts ls l ps).1.length c')/\Slc 5 RTy w' A' c' (refsOf ts ls l ps).1/\Below w.heap.size w w':=by
 have HT:=aF hty;have HOK:=aF hok;have HLS:=aF hls;have HPS:=aF hps;have HTS:=aF hts;have hp32:=(mF (eK hty).1).2;have hple:=hps.le;have hpbig:=hps.big;have htle:=hts.le;have htbig:=hts.big;have hfin:Hid (refsOf ts ls l (ps.take ps.length)=refsOf ts ls l ps):=aF (by rw [cA]);clear hts hls hps hok hty;obtain ⟨i0,hi,hz0,hz1,hz2⟩:=info_parts xDX;go_enter Tryz.func169,Tryz.ntmps169
 go_wp2
 go_loopw [7,8] (fun v i wr=>∃k:Nat,k<=ps.length/\i = .int .i64 k/\wr.cell? ⟨w.heap.size,0,none⟩=some (.int .i64 l)/\wr.cell? ⟨w.heap.size,1,none⟩=some (.slice C ps.length e)/\Below w.heap.size w wr/\∃ys:List TH,wr.ownsRow (w.heap.size+1) 81 5 v ys.length (ys.flatMap fG)/\(∀y∈ys,GoodH w y)/\Hid (ys.map (·.t)=(refsOf ts ls l (ps.take k)).1)) (fun _ i _=>ps.length - (intOf i).toNat)
 case atStart=>exact ⟨0,by omega,rfl,by go_simp,by go_simp,(aX _ _).alloc (aY _) _,[],World.ownsRow_nil _ _ _ _,by simp,aF (by rw [List.take_zero,vC];rfl)⟩
 case round=>
  obtain ⟨k,hk,rfl,y1,y2,hB,ys,hown,hgd,hys⟩:=hrel;have hwlt:=cD _ _ y1;by_cases hlt:k<ps.length
  ·obtain ⟨bC,oC,rfl,hbC,hrC⟩:=HPS.out.sl.at_ hlt;obtain ⟨g1,g2⟩:=RPj.keeps _ _ _ w.heap.size _ _ _ (aY _) hbC hB hrC
   have hsn:Hid ((refsOf ts ls l (ps.take (k+1))).1=(refsOf ts ls l (ps.take k)).1 ++ refT ts (tyOf ts ls l (ps.take k)).1 ps[k]):=aF (by
    have h:=iA HT.out (k+1);rw [bF hlt] at h ⊢
    exact rG h)
   have hyl:Hid (ys.length<=33):=aF (by
    have h:=jU ts ls l (ps.take k);rw [<- hys.out,cF] at h
    exact h)
   by_cases hkd:ps[k].kind=0
   ·have e2:(ps[k].kind == 0)=true:=by simp [hkd]
    have hij:=fL HOK.out (iA HT.out k);obtain ⟨j,hj⟩:=bG hij.1;have hj2:j<ts.length:=(by omega);obtain ⟨bT,oT,rfl,hbT,hrT⟩:=HTS.out.sl.at_ hj2;have htl:(ps.take k).length=k:=by simp;omega
    have hRec:Hid (∀W,Below w.heap.size w W->Calls Tryz.prog 139 #[.slice (some ⟨bT,oT,none⟩) ts.length c,.slice B ls.length d,.agg #[.int .i64 l,.slice (some ⟨bC,oC,none⟩) k e]] W fun e' w'=>e' = .returned (.tuple #[.int .i64 j,.int .i64 0])/\Below W.heap.size W w'):=aF (fun W hW=>by
     have h:=lF ts ls l k (ps.take k) htl (some ⟨bT,oT,none⟩) B (some ⟨bC,oC,none⟩) c d e W (HTS.out.keep RTy.keeps hW) (HLS.out.keep RLc.keeps hW) ((HPS.out.takeN k).keep RPj.keeps hW) HOK.out;rw [htl,hj,iA HT.out k] at h
     exact h)
    have hsn2:Hid ((refsOf ts ls l (ps.take (k+1))).1=(refsOf ts ls l (ps.take k)).1 ++ [ts[j]]):=aF (by
     rw [hsn.out,refT,bA hkd,hj,bW,bD hj2]
     rfl)
    generalize ps[k]=x at *;clear hkd hij hj hrC hsn;have hwk:IntKind.i64.wrap (k:Int)=(k:Int):=by rw [IntKind.wrap_i64];omega
    go_wp2
    refine fR (S:=fun X=>X.cell? ⟨w.heap.size,0,none⟩=some (.int .i64 l)/\X.cell? ⟨w.heap.size,1,none⟩=some (.slice (some ⟨bC,oC,none⟩) ps.length e)) (t:=15) (by kernel_rfl) ?_;have hS:wr.drew.cell? ⟨w.heap.size,0,none⟩=some (.int .i64 l)/\wr.drew.cell? ⟨w.heap.size,1,none⟩=some (.slice (some ⟨bC,oC,none⟩) ps.length e):=⟨y1,y2⟩;refine cX (i:=0) (v:=?tv0) rfl (by kernel_rfl) (by kernel_rfl) (by kernel_rfl) (by kernel_rfl) (fun _ _ _ h=>h) (Or.inl ⟨by rfl,?ty0⟩) hS ?tr0
    case ty0=>
     rintro X ⟨s1,s2⟩;simp only [aL];go_simp;rfl
    simp only [aL,Act.put,aK];refine cX (i:=1) (v:=?tv1) rfl (by kernel_rfl) (by kernel_rfl) (by kernel_rfl) (by kernel_rfl) (fun _ _ _ h=>h) (Or.inl ⟨by rfl,?ty1⟩) hS ?tr1
    case ty1=>
     rintro X ⟨s1,s2⟩;simp only [aL];go_simp;rfl
    simp only [aL,Act.put,aK];refine cX (i:=2) (v:=?tv2) rfl (by kernel_rfl) (by kernel_rfl) (by kernel_rfl) (by kernel_rfl) (fun _ _ _ h=>h) (Or.inl ⟨by rfl,?ty2⟩) hS ?tr2
    case ty2=>
     rintro X ⟨s1,s2⟩;simp only [aL];go_simp;rfl
    simp only [aL,Act.put,aK];refine cX (i:=3) (v:=?tv3) rfl (by kernel_rfl) (by kernel_rfl) (by kernel_rfl) (by kernel_rfl) (fun _ _ _ h=>h) (Or.inl ⟨by rfl,?ty3⟩) hS ?tr3
    case ty3=>
     rintro X ⟨s1,s2⟩;simp only [aL];go_simp;rfl
    simp only [aL,Act.put,aK];refine cX (i:=4) (v:=?tv4) rfl (by kernel_rfl) (by kernel_rfl) (by kernel_rfl) (by kernel_rfl) (fun _ _ _ h=>h) (Or.inl ⟨by rfl,?ty4⟩) hS ?tr4
    case ty4=>
     rintro X ⟨s1,s2⟩;simp only [aL];go_simp;rfl
    simp only [aL,Act.put,aK];refine cX (i:=5) (v:=?tv5) rfl (by kernel_rfl) (by kernel_rfl) (by kernel_rfl) (by kernel_rfl) (fun _ _ _ h=>h) (Or.inl ⟨by rfl,?ty5⟩) hS ?tr5
    case ty5=>
     rintro X ⟨s1,s2⟩;simp only [aL];go_simp;rfl
    simp only [aL,Act.put,aK];refine cX (i:=6) (v:=?tv6) rfl (by kernel_rfl) (by kernel_rfl) (by kernel_rfl) (by kernel_rfl) (fun _ _ _ h=>h) (Or.inl ⟨by rfl,?ty6⟩) hS ?tr6
    case ty6=>
     rintro X ⟨s1,s2⟩;simp only [aL];go_simp;rfl
    simp only [aL,Act.put,aK];refine cX (i:=7) (v:= .slice (some ⟨bC,oC,none⟩) k e) rfl (by kernel_rfl) (by kernel_rfl) (by kernel_rfl) (by kernel_rfl) (fun _ _ _ h=>h) (Or.inl ⟨by rfl,?ty7⟩) hS ?tr7
    case ty7=>
     rintro X ⟨s1,s2⟩;simp only [aL];go_simp;(try simp only [hwk]);first | rfl | (intro h;omega) | (rw [bA (by omega)];simp)
    simp only [aL,Act.put,aK];refine cX (i:=8) (v:=?tv8) rfl (by kernel_rfl) (by kernel_rfl) (by kernel_rfl) (by kernel_rfl) (fun _ _ _ h=>h) (Or.inl ⟨by rfl,?ty8⟩) hS ?tr8
    case ty8=>
     rintro X ⟨s1,s2⟩;simp only [aL];go_simp;rfl
    simp only [aL,Act.put,aK];refine dX (i:=9) (by kernel_rfl) rfl (fun K1 hK1=>?_);simp only [aL,Act.put,aK];rw [bA (by rfl)];go_simp;refine (hRec.out _ hB.drew).mono ?_;rintro e' w2 ⟨rfl,hb2⟩;have hS2:w2.cell? ⟨w.heap.size,0,none⟩=some (.int .i64 l)/\w2.cell? ⟨w.heap.size,1,none⟩=some (.slice (some ⟨bC,oC,none⟩) ps.length e):=⟨cM hb2 hS.1,cM hb2 hS.2⟩;refine hK1.out _ _ (fun _=>hS2) ?_;refine cX (i:=10) (v:=?tv10) rfl (by kernel_rfl) (by kernel_rfl) (by kernel_rfl) (by kernel_rfl) (fun _ _ _ h=>h) (Or.inl ⟨by rfl,?ty10⟩) hS2 ?tr10
    case ty10=>
     rintro X ⟨s1,s2⟩;simp only [aL];go_simp;rfl
    simp only [aL,Act.put,aK];refine cX (i:=11) (v:=?tv11) rfl (by kernel_rfl) (by kernel_rfl) (by kernel_rfl) (by kernel_rfl) (fun _ _ _ h=>h) (Or.inl ⟨by rfl,?ty11⟩) hS2 ?tr11
    case ty11=>
     rintro X ⟨s1,s2⟩;simp only [aL];go_simp;rfl
    simp only [aL,Act.put,aK];refine cX (i:=12) (v:=?tv12) rfl (by kernel_rfl) (by kernel_rfl) (by kernel_rfl) (by kernel_rfl) (fun _ _ _ h=>h) (Or.inl ⟨by rfl,?ty12⟩) hS2 ?tr12
    case ty12=>
     rintro X ⟨s1,s2⟩;simp only [aL];go_simp;rfl
    simp only [aL,Act.put,aK];refine cX (i:=13) (v:=?tv13) rfl (by kernel_rfl) (by kernel_rfl) (by kernel_rfl) (by kernel_rfl) (fun _ _ _ h=>h) (Or.inl ⟨by rfl,?ty13⟩) hS2 ?tr13
    case ty13=>
     rintro X ⟨s1,s2⟩;simp only [aL];go_simp;rfl
    simp only [aL,Act.put,aK];refine cX (i:=14) (v:=?tv14) rfl (by kernel_rfl) (by kernel_rfl) (by kernel_rfl) (by kernel_rfl) (fun _ _ _ h=>h) (Or.inl ⟨by rfl,?ty14⟩) hS2 ?tr14
    case ty14=>
     rintro X ⟨s1,s2⟩;simp only [aL];go_simp;rfl
    simp only [aL,Act.put,aK];refine fB (by kernel_rfl) ?_ _;have hB2:Below w.heap.size w w2:=hB.drew.trans (hb2.mono hB.drew.size);have hs2:=hB2.size;have hwz:w.heap.size+1<=w2.heap.size:=cD _ _ hS2.1;have hown2:w2.ownsRow (w.heap.size+1) 81 5 u7 ys.length (ys.flatMap fG):=dF (show wr.drew.ownsRow (w.heap.size+1) 81 5 u7 ys.length (ys.flatMap fG) from dZ hown (fun _ _ _ _=>rfl)) hb2;obtain ⟨y1',y2'⟩:=hS2;obtain ⟨r1,r2,r3,r4,A2,c2,r5,r6,r7,r8⟩:=hrT;have hnewG:Hid (GoodH w ⟨ts[j],A2,c2⟩):=aF ⟨r8,r6,r7⟩;replace r1:=cM hB2 r1;replace r2:=cM hB2 r2;replace r3:=cM hB2 r3;replace r4:=cM hB2 r4;replace r5:=cM hB2 r5;generalize ts[j]=t at *;have hlt2':bT<w2.heap.size:=(by omega);have hGD:=aF hgd;have hownA:=hown2.alloc (.cells #[.int .i64 t.kind,.bool t.mu,.int .i64 t.reg,.int .i64 t.elem,.slice A2 t.flds.length c2] 81);have hyl2:=hyl.out;clear hRec hS hb2 hK1 y1 y2 hown hown2 r6 r7 r8 g1 g2 hgd hB;go_wp2_with (at_builtin;refine wpList_append_own _ rfl _ _ 24 rfl (w.heap.size+1) 81 i0 _ 5 56 Tryz.underlying24 hi hz0 hz1 hz2 rfl (by decide) _ _ _ rfl hownA ⟨w2.heap.size,0,none⟩ 1 1 (fG ⟨t,A2,c2⟩) rfl rfl ?c1 ?c2 ?c3 ?c4 ?c5 ?_)
    case c1=>
     intro j' u hj';rw [add0,cell_of_row _ _ j' _ _ _ (heap_alloc_new w2 _)];simpa [fG] using hj'
    case c2=>simp [fG,Value.oneCell']
    case c3=>unfold maxLen;omega
    case c4=>omega
    case c5=>simp;omega
    intro v' w3 hown' hgrow _;have hB3:Below w.heap.size w w3:=(hB2.alloc hs2 _).grown hgrow (by simp;omega) (fun g hg=>by have:=(hownA.lt g hg).1;omega);have hb4:Below (w.heap.size+1) w2 w3:=((aX _ _).alloc hwz _).grown hgrow (by simp;omega) (fun g hg=>(hownA.lt g hg).1);have y3:=(hb4.cell (p:=⟨w.heap.size,0,none⟩) (by simp)).trans y1';have y4:=(hb4.cell (p:=⟨w.heap.size,1,none⟩) (by simp)).trans y2'
    have hown3:Hid (w3.ownsRow (w.heap.size+1) 81 5 v' (ys ++ [TH.mk t A2 c2]).length ((ys ++ [TH.mk t A2 c2]).flatMap fG)):=aF (by
     rw [bB,cG,List.flatMap_append,List.flatMap_singleton]
     exact hown')
    clear hown' hgrow hownA hb4 y1' y2' r1 r2 r3 r4 r5 hB2;go_wp2
    go_roundw
    case rel=>exact ⟨k+1,by omega,by go_num,y3,y4,hB3,ys ++ [⟨t,A2,c2⟩],hown3.out,fun y hy=>(List.mem_append.1 hy).elim (hGD.out y) (fun h=>by rw [bS] at h;rw [h];exact hnewG.out),aF (by rw [bU,hys.out,hsn2.out];rfl)⟩
    case measure=>simp [intOf];omega
   ·have e2:(ps[k].kind == 0)=false:=by simp [hkd]
    have hsn2:Hid ((refsOf ts ls l (ps.take (k+1))).1=(refsOf ts ls l (ps.take k)).1):=aF (by
     rw [hsn.out,refT,aZ hkd,List.append_nil])
    have hys2:=aF (hys.out.trans hsn2.out.symm);generalize ps[k]=x at *;have hGD:=aF hgd;clear hkd hrC hsn hsn2 hys hgd;go_wp2
    go_roundw
    case rel=>exact ⟨k+1,by omega,by go_num,y1,y2,hB,ys,hown,hGD.out,hys2⟩
    case measure=>simp [intOf];omega
  ·have hke:k=ps.length:=by omega
   subst hke;obtain ⟨A2,c2,rfl,hsl⟩:=gW hown (fun y hy=>(hgd y hy).keep hB);have hlen2:Hid (ys.length=(refsOf ts ls l ps).1.length):=aF (by rw [<- hfin.out,<- hys.out,cF]);have hsl2:Hid (Slc 5 RTy wr A2 c2 (refsOf ts ls l ps).1):=aF (by rw [<- hfin.out,<- hys.out];exact hsl);clear hgd hown hsl;go_wp2
   go_ret;exact ⟨A2,c2,by rw [hlen2.out];rfl,hsl2.out,hB⟩
theorem xN (A B C:Option Addr) (nt c nl d np e:Nat) (l i q:Int) (us:List Ty) (w:World)
 (hT:Hid (Calls Tryz.prog 139 #[.slice A nt c,.slice B nl d,.agg #[.int .i64 l,.slice C np e]] (w.alloc (.cells #[.int .i64 l,.slice C np e] 46)) fun e' w'=>e' = .returned (.tuple #[.int .i64 i,.int .i64 q])/\Below (w.heap.size+1) (w.alloc (.cells #[.int .i64 l,.slice C np e] 46)) w'))
 (hR:Hid (q=0->∀W,Below w.heap.size w W->Calls Tryz.prog 169 #[.slice A nt c,.slice B nl d,.agg #[.int .i64 l,.slice C np e]] W fun e' w'=>∃A' c',e' = .returned (.slice A' us.length c')/\Slc 5 RTy w' A' c' us/\Below W.heap.size W w')):
 Calls Tryz.prog 140 #[.slice A nt c,.slice B nl d,.agg #[.int .i64 l,.slice C np e]] w fun e' w'=>e' = .returned (.bool (decide (q=0) && !us.any notMu))/\Below w.heap.size w w':=by
 have hB0:=aF (((aX _ _).alloc (aY _) _:Below w.heap.size w (w.alloc (.cells #[.int .i64 l,.slice C np e] 46))));have z1:(w.alloc (.cells #[.int .i64 l,.slice C np e] 46)).cell? ⟨w.heap.size,0,none⟩=some (.int .i64 l):=by go_simp
 have z2:(w.alloc (.cells #[.int .i64 l,.slice C np e] 46)).cell? ⟨w.heap.size,1,none⟩=some (.slice C np e):=by go_simp
 by_cases hq:q=0
 ·have hR2:=aF (hR.out hq);subst hq;go_enter Tryz.func140,Tryz.ntmps140
  go_wp2_with (first
   | (go_at_call 139;refine hT.out.mono ?_;rintro e' w1 ⟨rfl,hb1⟩;have z1':=(hb1.cell (p:=⟨w.heap.size,0,none⟩) (by simp)).trans z1;have z2':=(hb1.cell (p:=⟨w.heap.size,1,none⟩) (by simp)).trans z2)
   | (go_at_call 169;refine (hR2.out _ (hB0.out.trans (hb1.mono (Nat.le_succ _)))).mono ?_;rintro e' w2 ⟨A',c',rfl,hs',hb2⟩))
  have hB1:=hB0.out.trans (hb1.mono (Nat.le_succ _));have hB2:Below w.heap.size w w2:=hB1.trans (hb2.mono hB1.size);have hle:=hs'.le;have hbig:=hs'.big;have hz:Hid (us.any notMu=(us.drop 0).any notMu):=aF (by simp);clear hT hR hR2 hB0 hB1 hb1 hb2 z1 z2 z1' z2';go_loopw [10] (fun v wr=>wr=w2/\∃k:Nat,k<=us.length/\v = .int .i64 k/\Hid (us.any notMu=(us.drop k).any notMu)) (fun v _=>us.length - (intOf v).toNat)
  case atStart=>exact ⟨rfl,0,by omega,rfl,hz⟩
  case round=>
   obtain ⟨rfl,k,hk,rfl,he⟩:=hrel;clear hz;by_cases hlt:k<us.length
   ·obtain ⟨b,off,rfl,hb,hr⟩:=hs'.sl.at_ hlt;have hd:=aF (cV hlt);generalize us[k]=x at hr hd;obtain ⟨g1,g2,_⟩:=hr;go_wp2
    ·go_ret;exact ⟨by rw [he.out,hd.out,List.any_cons];simp [notMu, *],hB2⟩
    ·go_roundw
     case rel=>exact ⟨trivial,k+1,by omega,by go_num,aF (by rw [he.out,hd.out,List.any_cons];simp [notMu, *])⟩
     case measure=>simp [intOf];omega
   ·have hd:us.drop k=[]:=bE (by omega);have hfin:Hid (us.any notMu=false):=aF (by rw [he.out,hd];rfl);clear he hd;go_wp2
    go_ret;exact ⟨by rw [hfin.out];rfl,hB2⟩
 ·have hq2:(q != 0)=true:=by simp [hq]
  have hq3:Hid (decide (q=0)=false):=aF (by simp [hq]);clear hq hR;go_enter Tryz.func140,Tryz.ntmps140
  go_wp2_with (go_at_call 139;refine hT.out.mono ?_;rintro e' w1 ⟨rfl,hb1⟩)
  go_ret;exact ⟨by rw [hq3.out];rfl,hB0.out.trans (hb1.mono (Nat.le_succ _))⟩
theorem xM (A B C:Option Addr) (nt c nl d np e:Nat) (l i q:Int) (us:List Ty) (w:World) (hus:us.length<=33) (hbad:q≠0->us=[])
 (hT:Hid (Calls Tryz.prog 139 #[.slice A nt c,.slice B nl d,.agg #[.int .i64 l,.slice C np e]] (w.alloc (.cells #[.int .i64 l,.slice C np e] 46)) fun e' w'=>e' = .returned (.tuple #[.int .i64 i,.int .i64 q])/\Below (w.heap.size+1) (w.alloc (.cells #[.int .i64 l,.slice C np e] 46)) w'))
 (hR:Hid (q=0->∀W,Below w.heap.size w W->Calls Tryz.prog 169 #[.slice A nt c,.slice B nl d,.agg #[.int .i64 l,.slice C np e]] W fun e' w'=>∃A' c',e' = .returned (.slice A' us.length c')/\Slc 5 RTy w' A' c' us/\Below W.heap.size W w')):
 Calls Tryz.prog 170 #[.slice A nt c,.slice B nl d,.agg #[.int .i64 l,.slice C np e]] w fun e' w'=>∃A' c',e' = .returned (.slice A' us.length c')/\Slc 1 RInt w' A' c' (us.map (·.reg))/\Below w.heap.size w w':=by
 have hB0:=aF (((aX _ _).alloc (aY _) _:Below w.heap.size w (w.alloc (.cells #[.int .i64 l,.slice C np e] 46))));have z1:(w.alloc (.cells #[.int .i64 l,.slice C np e] 46)).cell? ⟨w.heap.size,0,none⟩=some (.int .i64 l):=by go_simp
 have z2:(w.alloc (.cells #[.int .i64 l,.slice C np e] 46)).cell? ⟨w.heap.size,1,none⟩=some (.slice C np e):=by go_simp
 by_cases hq:q=0
 ·have hR2:=aF (hR.out hq);subst hq;clear hbad;go_enter Tryz.func170,Tryz.ntmps170
  go_wp2_with (first
   | (go_at_call 139;refine hT.out.mono ?_;rintro e' w1 ⟨rfl,hb1⟩;have z1':=(hb1.cell (p:=⟨w.heap.size,0,none⟩) (by simp)).trans z1;have z2':=(hb1.cell (p:=⟨w.heap.size,1,none⟩) (by simp)).trans z2)
   | (go_at_call 169;refine (hR2.out _ (hB0.out.trans (hb1.mono (Nat.le_succ _)))).mono ?_;rintro e' w2 ⟨A',c',rfl,hs',hb2⟩))
  have hB1:=hB0.out.trans (hb1.mono (Nat.le_succ _));have hbw:Below w.heap.size w w2:=hB1.trans (hb2.mono hB1.size);have hle:=hs'.le;have hbig:=hs'.big;obtain ⟨i0,hi,hz0,hz1,hz2⟩:=info_parts dW;clear hT hR hR2 hB0 hB1 hb1 hb2 z1 z2 z1' z2';go_loopw [7,11] (fun v i wr=>∃k:Nat,k<=us.length/\i = .int .i64 k/\wr.ownsRow w2.heap.size 3 1 v k ((us.map (fun t=>Value.int .i64 t.reg)).take k)/\Below w2.heap.size w2 wr) (fun _ i _=>us.length - (intOf i).toNat)
  case atStart=>exact ⟨0,by omega,rfl,World.ownsRow_nil _ _ _ _,aX _ _⟩
  case round=>
   obtain ⟨k,hk,rfl,hown,hB⟩:=hrel;by_cases hlt:k<us.length
   ·obtain ⟨bT,oT,rfl,hbT,hrT⟩:=hs'.sl.at_ hlt;obtain ⟨r1,r2,r3,r4,A2,c2,r5,r6,r7,r8⟩:=RTy.keeps _ _ _ w2.heap.size _ _ _ (aY _) hbT hB hrT
    have htk:Hid ((us.map (fun t=>Value.int .i64 t.reg)).take (k+1)=(us.map (fun t=>Value.int .i64 t.reg)).take k ++ [.int .i64 us[k].reg]):=aF (by
     rw [bF (by simpa using hlt)]
     simp)
    generalize us[k]=tt at *;clear hrT r8;have hown2:=hown.alloc (.cells #[.int .i64 tt.reg] 3);have hsz:=hB.size;go_wp2_with (at_builtin;refine wpList_append_own _ rfl _ _ 58 rfl w2.heap.size 3 i0 (.int .i64 0) 1 8 Tryz.underlying58 hi hz0 hz1 hz2 rfl (by decide) _ _ _ rfl hown2 ⟨wr.heap.size,0,none⟩ 1 1 [.int .i64 tt.reg] rfl rfl ?c1 ?c2 ?c3 ?c4 ?c5 ?_)
    try (case c1=>
     intro j u hj;match j,hj with
     | 0,hj=>
       simp at hj;subst hj;rw [add0]
       go_simp)
    case c2=>first | rfl | (intro u hu;simp at hu;subst hu;rfl)
    case c3=>unfold maxLen;omega
    case c4=>omega
    case c5=>simp;omega
    intro v' w3 hown' hgrow _;have hown3:w3.ownsRow w2.heap.size 3 1 v' (k+1) ((us.map (fun t=>Value.int .i64 t.reg)).take (k+1)):=by rw [htk.out];exact hown'
    have hB2:Below w2.heap.size w2 w3:=(hB.alloc hsz _).grown hgrow (by simp;omega) (fun g hg=>(hown2.lt g hg).1);clear hown' hgrow hown hown2 hB r1 r2 r3 r4 r5;go_wp2
    go_roundw
    case rel=>exact ⟨k+1,by omega,by simp,hown3,hB2⟩
    case measure=>simp [intOf];omega
   ·have hlt2:¬((k:Int)<(us.length:Int)):=(by omega);have hke:k=us.length:=(by omega);subst hke
    have hown2:wr.ownsRow w2.heap.size 3 1 u7 (us.map (·.reg)).length ((us.map (·.reg)).map (Value.int .i64)):=by
     have h:=hown;rw [List.take_of_length_le (by simp)] at h;rwa [cF,List.map_map]
    obtain ⟨A2,c2,rfl,hsl⟩:=dB hown2;rw [cF] at *;have hsl2:=aF hsl;clear hown hown2 hsl;go_wp2
    go_ret;exact ⟨A2,c2,rfl,hsl2.out,hbw.trans (hB.mono hbw.size)⟩
 ·have hq2:(q != 0)=true:=by simp [hq]
  have hu:=hbad hq;subst hu;clear hq hR hbad;go_enter Tryz.func170,Tryz.ntmps170
  go_wp2_with (go_at_call 139;refine hT.out.mono ?_;rintro e' w1 ⟨rfl,hb1⟩)
  go_ret;exact ⟨none,0,rfl,⟨Sl.nil,by simp,by omega⟩,hB0.out.trans (hb1.mono (Nat.le_succ _))⟩
theorem vB (ts:List Ty) (ls:List Lc) (l:Int) (ps:List Pj):(refsOf ts ls l ps).2=decide ((tyOf ts ls l ps).2=0):=by
 rw [refsOf,rJ];by_cases h:(tyOf ts ls l ps).2=0 <;> simp [h]
theorem pP (ts:List Ty) (ls:List Lc) (l:Int) (ps:List Pj) (A B C:Option Addr) (c d e:Nat) (w:World) (hts:Slc 5 RTy w A c ts) (hls:Slc 2 RLc w B d ls) (hps:Slc 2 RPj w C e ps) (hok:Okay ts ls):
 Calls Tryz.prog 140 #[.slice A ts.length c,.slice B ls.length d,.agg #[.int .i64 l,.slice C ps.length e]] w fun e' w'=>e' = .returned (.bool ((refsOf ts ls l ps).2 && !(refsOf ts ls l ps).1.any notMu))/\Below w.heap.size w w':=by
 rw [vB];have hT:=lF ts ls l ps.length ps rfl A B C c d e (w.alloc (.cells #[.int .i64 l,.slice C ps.length e] 46)) (hts.keep RTy.keeps ((aX _ _).alloc (aY _) _)) (hls.keep RLc.keeps ((aX _ _).alloc (aY _) _)) (hps.keep RPj.keeps ((aX _ _).alloc (aY _) _)) hok;rw [bI] at hT;exact xN A B C ts.length c ls.length d ps.length e l _ _ _ w (aF hT) (aF (fun hq W hW=>pO ts ls l ps A B C c d e W (hts.keep RTy.keeps hW) (hls.keep RLc.keeps hW) (hps.keep RPj.keeps hW) hok hq))
theorem pN (ts:List Ty) (ls:List Lc) (l:Int) (ps:List Pj) (A B C:Option Addr) (c d e:Nat) (w:World) (hts:Slc 5 RTy w A c ts) (hls:Slc 2 RLc w B d ls) (hps:Slc 2 RPj w C e ps) (hok:Okay ts ls):
 Calls Tryz.prog 170 #[.slice A ts.length c,.slice B ls.length d,.agg #[.int .i64 l,.slice C ps.length e]] w fun e' w'=>∃A' c',e' = .returned (.slice A' (refsOf ts ls l ps).1.length c')/\Slc 1 RInt w' A' c' ((refsOf ts ls l ps).1.map (·.reg))/\Below w.heap.size w w':=by
 have hT:=lF ts ls l ps.length ps rfl A B C c d e (w.alloc (.cells #[.int .i64 l,.slice C ps.length e] 46)) (hts.keep RTy.keeps ((aX _ _).alloc (aY _) _)) (hls.keep RLc.keeps ((aX _ _).alloc (aY _) _)) (hps.keep RPj.keeps ((aX _ _).alloc (aY _) _)) hok;rw [bI] at hT;exact xM A B C ts.length c ls.length d ps.length e l _ _ _ w (jU _ _ _ _) (fun hq=>by rw [mV hq]) (aF hT) (aF (fun hq W hW=>pO ts ls l ps A B C c d e W (hts.keep RTy.keeps hW) (hls.keep RLc.keeps hW) (hps.keep RPj.keeps hW) hok hq))
end
section
open Go Go.RowKit
theorem eN (m:Nat):((m:Int) == 0)=decide (m=0):=by
 rw [bR];simp
theorem eV (p:Plc) (A:Option Addr) (c:Nat) (w:World):
 Calls Tryz.prog 115 #[.agg #[.int .i64 p.loc,.slice A p.proj.length c]] w fun e' w'=>e' = .returned (.bool (zeroP p))/\Below w.heap.size w w':=by
 obtain ⟨m,hm⟩:∃m,p.proj.length=m:=⟨_,rfl⟩;unfold zeroP;rw [hm];obtain ⟨q,hq⟩:∃q,(decide (p.loc=0) && decide (m=0))=q:=⟨_,rfl⟩;rw [hq];have HQ:=aF hq;clear hq hm;go_enter Tryz.func115,Tryz.ntmps115
 go_wp2_with fail
 all_goals
  go_ret;refine ⟨?_,aH⟩;rw [<- HQ.out]
  first
   | (simp_all;done)
   | (simp_all;exact eN m)
theorem dQ (p:Plc) (A:Option Addr) (c:Nat) (w:World):
 Calls Tryz.prog 98 #[.agg #[.int .i64 p.loc,.slice A p.proj.length c]] w fun e' w'=>e' = .returned (.bool (zeroP p))/\Below w.heap.size w w':=by
 obtain ⟨m,hm⟩:∃m,p.proj.length=m:=⟨_,rfl⟩;unfold zeroP;rw [hm];obtain ⟨q,hq⟩:∃q,(decide (p.loc=0) && decide (m=0))=q:=⟨_,rfl⟩;rw [hq];have HQ:=aF hq;clear hq hm;go_enter Tryz.func98,Tryz.ntmps98
 go_wp2_with fail
 all_goals
  go_ret;refine ⟨?_,aH⟩;rw [<- HQ.out]
  first
   | (simp_all;done)
   | (simp_all;exact eN m)
theorem dY (x:Bool) (w:World):Calls Tryz.prog 120 #[.bool x] w fun e' w'=>e' = .returned (.int .i64 (fail22 x))/\w'=w:=by
 cases x
 all_goals
  go_enter Tryz.func120,Tryz.ntmps120
  go_wp2_with fail
  go_ret;exact ⟨rfl,rfl⟩
def ckC (b:Bdy) (bh:BH) (r:Nat):List Value:=[.string b.name,.slice bh.A1 b.regions.length bh.c1,.slice bh.A2 b.outl.length bh.c2,.slice bh.A3 b.types.length bh.c3,.slice bh.A4 b.locals.length bh.c4,.int .i64 b.args,.slice bh.A5 b.blocks.length bh.c5,.pointer (some ⟨r,0,none⟩)]
theorem eM (b:Bdy) (bh:BH) (r:Nat) (p:Plc) (A:Option Addr) (c:Nat) (w:World) (H:BdAt w b bh) (hp:Slc 2 RPj w A c p.proj) (hok:Okay b.types b.locals):
 Calls Tryz.prog 123 #[.agg (ckC b bh r).toArray,.agg #[.int .i64 p.loc,.slice A p.proj.length c]] w fun e' w'=>e' = .returned (.tuple #[.int .i64 (tyB b p).1,.int .i64 (tyB b p).2])/\Below w.heap.size w w':=by
 have HT:=aF (fun W (hb:Below w.heap.size w W)=>uO b.types b.locals p.loc p.proj bh.A3 bh.A4 A bh.c3 bh.c4 c W (H.keep hb).typ (H.keep hb).loc (hp.keep RPj.keeps hb) hok);change Hid (∀W,Below w.heap.size w W->Calls Tryz.prog 156 _ W fun e' w'=>e' = .returned (.tuple #[.int .i64 (tyB b p).1,.int .i64 (tyB b p).2])/\Below W.heap.size W w') at HT;generalize tyB b p=q at HT ⊢;clear H hp hok;unfold ckC;go_enter Tryz.func123,Tryz.ntmps123
 go_wp2_with (go_at_call 156;refine (HT.out _ (bel2 _ _ _)).mono ?_;rintro e' w1 ⟨rfl,hb1⟩)
 go_ret2
 exact ⟨rfl,(bel2 _ _ _).trans (hb1.mono (bel2 _ _ _).size)⟩
theorem eC (b:Bdy) (bh:BH) (p:Plc) (A:Option Addr) (c:Nat) (w:World) (H:BdAt w b bh) (hp:Slc 2 RPj w A c p.proj) (hok:Okay b.types b.locals):
 Calls Tryz.prog 95 #[.agg (bdC b bh).toArray,.agg #[.int .i64 p.loc,.slice A p.proj.length c]] w fun e' w'=>e' = .returned (.tuple #[.int .i64 (tyB b p).1,.int .i64 (tyB b p).2])/\Below w.heap.size w w':=by
 have HT:=aF (fun W (hb:Below w.heap.size w W)=>lF b.types b.locals p.loc _ p.proj rfl bh.A3 bh.A4 A bh.c3 bh.c4 c W (H.keep hb).typ (H.keep hb).loc (hp.keep RPj.keeps hb) hok);change Hid (∀W,Below w.heap.size w W->Calls Tryz.prog 139 _ W fun e' w'=>e' = .returned (.tuple #[.int .i64 (tyB b p).1,.int .i64 (tyB b p).2])/\Below W.heap.size W w') at HT;generalize tyB b p=q at HT ⊢;clear H hp hok;unfold bdC;go_enter Tryz.func95,Tryz.ntmps95
 go_wp2_with (go_at_call 139;refine (HT.out _ (bel2 _ _ _)).mono ?_;rintro e' w1 ⟨rfl,hb1⟩)
 go_ret2
 exact ⟨rfl,(bel2 _ _ _).trans (hb1.mono (bel2 _ _ _).size)⟩
theorem lH (b:Bdy) (bh:BH) (p:Plc) (A:Option Addr) (c:Nat) (w:World) (H:BdAt w b bh) (hp:Slc 2 RPj w A c p.proj) (hok:Okay b.types b.locals):
 Calls Tryz.prog 96 #[.agg (bdC b bh).toArray,.agg #[.int .i64 p.loc,.slice A p.proj.length c]] w fun e' w'=>e' = .returned (.bool (mutB b p))/\Below w.heap.size w w':=by
 have HT:=aF (fun W (hb:Below w.heap.size w W)=>pP b.types b.locals p.loc p.proj bh.A3 bh.A4 A bh.c3 bh.c4 c W (H.keep hb).typ (H.keep hb).loc (hp.keep RPj.keeps hb) hok);change Hid (∀W,Below w.heap.size w W->Calls Tryz.prog 140 _ W fun e' w'=>e' = .returned (.bool (mutB b p))/\Below W.heap.size W w') at HT;generalize mutB b p=q at HT ⊢;clear H hp hok;unfold bdC;go_enter Tryz.func96,Tryz.ntmps96
 go_wp2_with (go_at_call 140;refine (HT.out _ (bel2 _ _ _)).mono ?_;rintro e' w1 ⟨rfl,hb1⟩)
 go_ret;exact ⟨rfl,(bel2 _ _ _).trans (hb1.mono (bel2 _ _ _).size)⟩
theorem lB {α : Type} {enc : α -> Value} {R:Rd α} (hR:∀(w:World) (B b o:Nat) (x : α),w.cell? ⟨b,o,none⟩=some (enc x)->R w B b o x) {w:World} {base n:Nat} {e:TypeId} {v:Value} {xs:List α}
 (h:w.ownsRow base e 1 v n (xs.map enc)) (hn:xs.length=n):∃A c,v = .slice A n c/\Slc 1 R w A c xs/\(∀a,A=some a->base<=a.block/\a.block<w.heap.size):=by
 subst hn;have h0:=h;rcases h.2 with ⟨rfl,hz⟩ | ⟨g,cap,cur,rfl,hg,hh,hnc,hm,_,_⟩
 ·have:xs=[]:=List.length_eq_zero_iff.1 (by omega);subst this;exact ⟨none,0,rfl,⟨Sl.nil,by simp,by omega⟩,fun a h=>by cases h⟩
 ·have hgl:=(Array.getElem?_eq_some_iff.1 hh).1;refine ⟨some ⟨g,0,none⟩,cap,rfl,⟨fun _=>⟨g,0,rfl,hgl,fun i x hx=>?_⟩,by simpa using hnc,by simp only [maxLen] at hm;omega⟩,fun a ha=>?_⟩
  ·have hc:=h0.cells (g:=g) rfl i (enc x) (by rw [cL,hx];rfl);rw [add0] at hc;exact hR w _ g _ x (by simpa using hc)
  ·injection ha with ha
   subst ha;exact ⟨hg,hgl⟩
theorem lM {X:World} {b m n:Nat} {e:TypeId} {v:Value} {xs:List Value} (h:X.ownsRow b e m v n xs):∃A c,v = .slice A n c:=by
 rcases h.2 with ⟨h1,h2⟩ | ⟨g',cap,cur,h1,_⟩
 ·exact ⟨none,0,by rw [h1,h2]⟩
 ·exact ⟨_,cap,h1⟩
theorem alF (w:World) (o:Obj):Below w.heap.size w (w.alloc o):=(aX _ _).alloc (aY _) _
def szN (s:ByteArray):Nat:=min s.size 9000
def sumN (l:List ByteArray):Nat:=(l.map (fun s=>1+szN s)).sum
theorem lA (l:List ByteArray) (s:ByteArray):sumN (l ++ [s])=sumN l+(1+szN s):=by simp [sumN]
theorem lG (w:World) (cs:List Value) (t:TypeId) (j:Nat) (u:Value) (h:cs[j]?=some u):(w.alloc (.cells cs.toArray t)).cell? ⟨w.heap.size,j,none⟩=some u:=by
 rw [World.cell?_alloc_at _ _ _ _ (by simp)];simpa using h
theorem xIR (w:World) (x:ByteArray):∀j u,[Value.string x][j]?=some u->(w.alloc (.cells #[.string x] 9)).cell? ((⟨w.heap.size,0,none⟩:Addr).add j)=some u:=fun j u hj=>by
 rw [add0];exact lG w [.string x] 9 j u hj
theorem xIQ (x:ByteArray):∀u∈[Value.string x],u.oneCell'=true:=fun u hu=>by simp at hu;subst hu;rfl
end
end Go.Proofs.YtmknfbfppmkcfaaGreatDoor
