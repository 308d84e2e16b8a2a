/-
  Parts of the proof: KP KU KL2 MB MC MD ME MF MH MG MI F4 FJ.
-/
import Derived.Sort.WalkA
import Derived.Test.YtkaigkfbkpinlaaGreatDoorFP0
import Derived.Test.YtkaigkfbkpinlaaGreatDoorFP18
import Derived.Test.YtkaigkfbkpinlaaGreatDoorFP15
import Derived.Test.YtkaigkfbkpinlaaGreatDoorFP1
import Derived.Test.YtkaigkfbkpinlaaGreatDoorFP16
import Derived.Test.YtkaigkfbkpinlaaGreatDoorHV
import Derived.Test.YtkaigkfbkpinlaaGreatDoorFP17
import Derived.Test.YtkaigkfbkpinlaaGreatDoorFP6
import Derived.Test.YtkaigkfbkpinlaaGreatDoorMS
import Derived.Test.YtkaigkfbkpinlaaGreatDoorFP9
import Derived.Test.YtkaigkfbkpinlaaGreatDoorFP3
namespace Go.Proofs.YtkaigkfbkpinlaaGreatDoor
set_option maxRecDepth 100000
set_option maxHeartbeats 16000000
section
open Go Go.RowKit
attribute [local irreducible] Calls
theorem rsl0 {α : Type} {k:Nat} {R:Rd α} {w:World} {B b o:Nat} (h:w.cell? ⟨b,o,none⟩=some (.slice none 0 0)):RSl k R w B b o ([]:List α):=⟨none,0,h,bA _,by decide,Sl.nil⟩
end
section
open Go Go.RowKit
attribute [local irreducible] Calls
theorem Ok12.sml {b:Bdy} (h:Ok12 b) {p z:Int} (hz:z∈usP b.blocks p):0<=z/\z<((1000000:Nat):Int):=by
 have:=tL h.chk hz;have h2:=h.loc;unfold LocIn at this;omega
end
section
open Go Go.RowKit
attribute [local irreducible] Calls
def locU (b:Bdy):List Int:=(List.range b.locals.length).map (fun (i:Nat)=>(i:Int))
theorem zP {b:Bdy} {z:Int} (h:LocIn b z):z∈locU b:=by
 unfold LocIn at h;unfold locU;rw [cN];exact ⟨z.toNat,List.mem_range.2 (by omega),by omega⟩
theorem Ok12.targets {b:Bdy} (h:Ok12 b):∀x∈b.blocks,x.term.targets.length<=1000000000000:=fun x hx=>by
 have:=(pH h.chk).blks x hx;omega
theorem Ok12.uses {b:Bdy} (h:Ok12 b):∀p,∀z∈usP b.blocks p,z∈locU b/\Sml z:=fun _p _z hz=>⟨zP (tL h.chk hz),h.sml hz⟩
theorem Ok12.ulen {b:Bdy} (h:Ok12 b):(locU b).length<=1000:=by
 have:=h.loc;unfold locU;simp;omega
def LocQ (b:Bdy) (w:World) (e':Ending) (w':World):Prop:=∃A c ll,e' = .returned (.slice A ll.length c)/\ll.length=cntB b.blocks/\(∀(k:Nat) (l:List Int),ll[k]?=some l->Srt l (fun z=>Lv b.blocks z (k:Int)))/\Slc 1 (RSl 1 RInt) w' A c ll/\Below w.heap.size w w'
theorem sP (b:Bdy) (bh:BH) (w:World) (H:BdAt w b bh) (h:Ok12 b):Calls Tryz.prog 83 #[.agg (bdC b bh).toArray] w (LocQ b w):=
 pW b bh w (locU b) H (by have:=h.cnt;omega) (by have:=h.ns.blk;omega) h.targets h.uses h.ulen
end
section
open Go Go.RowKit Go.Maps Go.WideMaps
def OwnP (w:World) (b n:Nat) (ps:List (Int × Int)):Prop:=
 ∃D:DataW Unit,w.ownsMap Tryz.prog 42 (plainElem Tryz.prog 4) b n D/\(∀s t,(Lit.int .i64 s).wf=true->(Lit.int .i64 t).wf=true->Maps.has D (pairL s t)=decide ((s,t)∈ps))/\
  (∀kl,Maps.has D kl=true->∃s t,(s,t)∈ps/\kl=pairL s t)/\∀p∈ps,(Lit.int .i64 p.1).wf=true/\(Lit.int .i64 p.2).wf=true
section
variable {w:World} {b n:Nat} {ps:List (Int × Int)}
theorem OwnP.made (w:World):OwnP (w.alloc (.map #[] 0)) w.heap.size 0 []:=
 ⟨.map [],World.ownsMap_made w _ _ _,fun s t _ _=>by simp [Maps.has],fun kl h=>by simp [Maps.has] at h,by simp⟩
theorem OwnP.lt (h:OwnP w b n ps):b<w.heap.size:=by
 obtain ⟨D,h1,_⟩:=h;exact h1.lt
theorem OwnP.block {w':World} (h:OwnP w b n ps) (hb:w'.heap[b]?=w.heap[b]?):OwnP w' b n ps:=by
 obtain ⟨D,⟨es,clock,h1,h3,h4,h5⟩,h2⟩:=h;exact ⟨D,⟨es,clock,hb.trans h1,h3,h4,h5⟩,h2⟩
theorem OwnP.below {w':World} (h:OwnP w b n ps) (hb:Below w.heap.size w w'):OwnP w' b n ps:=h.block (hb.block b h.lt)
theorem OwnP.alloc (h:OwnP w b n ps) (o:Obj):OwnP (w.alloc o) b n ps:=h.below ((aZ _ _).alloc (bA _) _)
theorem OwnP.obj (h:OwnP w b n ps):∃es c,w.heap[b]?=some (.map es c):=by
 obtain ⟨D,⟨es,clock,h1,_⟩,_⟩:=h;exact ⟨_,_,h1⟩
theorem OwnP.store (h:OwnP w b n ps) (hn:n<maxLen) {x y:Int} (hx:(Lit.int .i64 x).wf=true) (hy:(Lit.int .i64 y).wf=true):
 ∃w',(Instr.mapUpdate 140 (.map (some b)) (.agg #[.int .i64 x,.int .i64 y]) (.bool true)).run Tryz.prog w = .ok () w'/\OwnP w' b (n+1) ((x,y) :: ps)/\w.grownBy w' (some b):=by
 obtain ⟨D,h1,h2,h3,h4⟩:=h;obtain ⟨w',hrun,g1,g2⟩:=h1.update (Keyed.of_law arrP.law) Tryz.underlying140 hn (keyOf_pair arrP Tryz.underlying3 progN hx hy) (fS Tryz.underlying4 true);have hk:WideAt.IsKeyLit (pairL x y):=trivial;refine ⟨w',hrun,⟨_,g1,fun s t hs ht=>?_,fun kl hkl=>?_,fun p hp=>?_⟩,g2⟩
 ·by_cases e:pairL s t=pairL x y
  ·obtain ⟨rfl,rfl⟩:=fT hs ht hx hy e;refine (has_put_same h1.isMap hk _).trans ?_;simp
  ·have hne:¬(s=x/\t=y):=fun e'=>e (by rw [e'.1,e'.2])
   refine (has_put_other e _).trans ?_;rw [h2 s t hs ht];exact decide_eq_decide.2 ⟨fun hm=>List.mem_cons_of_mem _ hm,fun hm=>(List.mem_cons.1 hm).elim (fun e'=>absurd (Prod.mk.injEq .. ▸ e') hne) id⟩
 ·by_cases e:kl=pairL x y
  ·exact ⟨x,y,by simp,e⟩
  ·have hkl':=(has_put_other e _).symm.trans hkl;obtain ⟨s,t,hm,rfl⟩:=h3 kl hkl';exact ⟨s,t,List.mem_cons_of_mem _ hm,rfl⟩
 ·rcases List.mem_cons.1 hp with rfl | hp
  ·exact ⟨hx,hy⟩
  ·exact h4 p hp
end
theorem nB (w:World) {ops:Array Oper} {rest:List Oper} {o:Oper} {a:Act} {Q:Exit->Act->World->Prop}
 (hg:o.guard=none) (m x v:Operand) (hop:o.op=Op.mapUpdate 140 m x v) (b n:Nat) (ps:List (Int × Int))
 (hm:a.eval m = .map (some b)) (hown:OwnP w b n ps) (hn:n<maxLen) (s t:Int) (hx:a.eval x = .agg #[.int .i64 s,.int .i64 t]) (hv:a.eval v = .bool true) (h1:(Lit.int .i64 s).wf=true) (h2:(Lit.int .i64 t).wf=true)
 (hK:∀w',OwnP w' b (n+1) ((s,t) :: ps)->w.grownBy w' (some b)->wpList Tryz.prog ops Q rest (a.put o.dst undef) w'):
 wpList Tryz.prog ops Q (o :: rest) a w:=by
 refine wpList_plain hg fun K' hK'=>?_
 obtain ⟨w',hrun,r1,r2⟩:=hown.store hn h1 h2;unfold Oper.wp;simp [execOp,hop,hm,hx,hv,hrun,Result.andThen];exact hK' _ _ (hK w' r1 r2)
end
section
open Go Go.RowKit Go.Maps Go.WideMaps Go.Sort Go.Shelf
def encP (z:Int × Int):Value:= .agg #[.int .i64 z.1,.int .i64 z.2]
theorem gL {P:Program} {k e:TypeId} {q:IntKind} (A:ArrKey P k e 2) (he:P.underlying e=some (.int q)) (hsz:∃m,P.types.size=m+1) {v:Value} {kl:Lit} (h:keyOf P k v=some kl):
 ∃a b:Int,v = .agg #[.int q a,.int q b]/\(Lit.int q a).wf=true/\(Lit.int q b).wf=true/\kl = .string (keyBytes [.int q a,.int q b]):=by
 have hkt:=A.keyType hsz;obtain ⟨m,hm⟩:=hsz;unfold keyOf at h;simp only [A.hu] at h;split at h
 ·rename_i hf;rw [hm] at h;simp only [bR] at hf;have hf2:=hf.2;unfold Value.formed at hf2;simp only [A.hu] at hf2;cases v <;> simp at hf2
  rename_i cs;obtain ⟨cs⟩:=cs;simp only [Value.cells,A.size] at h hf2;match cs,hf2 with
  | [c0,c1],_=>
    unfold Program.keyLits at h;simp only [A.hu] at h;rw [bD (by rw [A.size];rfl),show List.range 2=[0,1] from rfl,List.mapM_cons,List.mapM_cons,List.mapM_nil] at h
    have key:∀c ls,P.keyLits (m+1) e [c]=some ls->∃a:Int,c = .int q a/\(Lit.int q a).wf=true/\ls=[.int q a]:=fun c ls hc=>by
     unfold Program.keyLits at hc;simp only [he] at hc;cases c <;> simp at hc
     obtain ⟨⟨rfl,hw⟩,rfl⟩:=hc;exact ⟨_,rfl,hw,rfl⟩
    simp only [A.one,bind,Option.bind_eq_some_iff,pure,Option.map_eq_some_iff,cK] at h;obtain ⟨ls,⟨xs,⟨l0,h0,ys,⟨l1,h1,_,rfl,rfl⟩,rfl⟩,rfl⟩,rfl⟩:=h;obtain ⟨a,rfl,wa,rfl⟩:=key _ _ h0;obtain ⟨b,rfl,wb,rfl⟩:=key _ _ h1;exact ⟨a,b,rfl,wa,wb,rfl⟩
 ·cases h
theorem iD {α : Type} [DecidableEq α]:∀(l ps:List α),l.Nodup->(∀x∈l,x∈ps)->l.length<=ps.length
 | [],_,_,_=>Nat.zero_le _
 | x :: l,ps,hn,hs=>by
   obtain ⟨h1,h2⟩:=List.nodup_cons.1 hn;have hx:=hs x (by simp);have:=iD l (ps.erase x) h2 (fun y hy=>(List.mem_erase_of_ne (fun e=>h1 (by rw [<- e];exact hy))).2 (hs y (by simp [hy])));rw [List.length_erase_of_mem hx] at this;have:=List.length_pos_of_mem hx;simp;omega
def ColP (ps:List (Int × Int)) (left:Lit->Bool) (ss:List (Int × Int)):Prop:=ss.Nodup/\∀z,z∈ss↔z∈ps/\left (pairL z.1 z.2)=false
theorem wE (mb:Option Nat) (W:World):Calls Tryz.prog 87 #[.map mb] W fun e w'=>e = .returned (.func (.func 134) #[] #[.pointer (some ⟨W.heap.size,0,none⟩)])/\w'=W.alloc (.cells #[.map mb] 140):=by
 go_enter Tryz.func87,Tryz.ntmps87
 go_wp2_with fail
 go_ret;exact ⟨rfl,rfl⟩
end
section
open Go Go.RowKit Go.Maps Go.WideMaps Go.Sort Go.Shelf
section
variable {P:Program} {H:Type} {k:TypeId} {R:Value->Option (DataW H × List MemPlace)} {w w':World} {b r n:Nat} {D:DataW H} {left:Lit->Bool} {cnt:Nat}
theorem lF (h:w.ranges P k R b r n D left cnt):∃m s t c,w.heap[r]?=some (.mapIter m s t c):=by
 obtain ⟨es,clock,since,seen,c0,g1,F,hs,hD,g2,rest⟩:=h;exact ⟨_,_,_,_,g2⟩
theorem lD (h:w.ranges P k R b r n D left cnt):r<w.heap.size/\b<w.heap.size:=⟨h.lt,h.owns.lt⟩
theorem lE (h:w.ranges P k R b r n D left cnt) (hb:w'.heap[b]?=w.heap[b]?) (hr:w'.heap[r]?=w.heap[r]?):w'.ranges P k R b r n D left cnt:=by
 obtain ⟨es,clock,since,seen,c0,g1,F,hs,hD,g2,rest⟩:=h;exact ⟨es,clock,since,seen,c0,hb.trans g1,F,hs,hD,hr.trans g2,rest⟩
end
theorem keysM (n:Nat) (hn:1<=n) (Bm b nn:Nat) (ps:List (Int × Int)) (w:World) (hBm:Bm<w.heap.size) (hm0:w.cell? ⟨Bm,0,none⟩=some (.map (some b))) (hown0:OwnP w b nn ps):
 SeqM Fence.wide n Tryz.prog 134 #[.pointer (some ⟨Bm,0,none⟩)] (fun z:Int × Int=> #[encP z]) (fun _=>false) (fun k=>k<w.heap.size) (fun pre x=>x∈ps/\x∉pre) (fun L=>L.Nodup/\∀z,z∈L↔z∈ps) w:=by
 intro l J Jx W hW hJ hJx hY h0;have hown:=hown0.below hW;have hm:=(hW.cell (p:=⟨Bm,0,none⟩) hBm).trans hm0;have hbl:=hown0.lt;clear hown0 hm0;change CallsIn Fence.wide n Tryz.prog 134 #[.func (.yield l) #[] #[],.pointer (some ⟨Bm,0,none⟩)] W _;obtain ⟨D0,hown,hh2,hh3,hh4⟩:=hown;have HK:=aH (Keyed.of_law arrP.law);refine callsIn_of_wp Tryz.func134 rfl trivial ?_ rfl;simp only [Tryz.ntmps134,List.size_toArray,bN,bQ,Nat.reduceAdd,Nat.reduceSub,Array.replicate_succ,Array.replicate_zero,List.push_toArray,List.append_toArray,List.nil_append,List.cons_append]
 gi_wp2_with (first
  | (gi_at_range;refine wpListIn_range_own _ rfl _ 140 rfl 42 4 HK.out Tryz.underlying140 _ b nn _ rfl hown ?_;intro w0 hrg0 hg0 hs0)
  | gi_in)
 try go_frame
 gi_loopw [3] (fun _ wr=>∃(left:Lit->Bool) (cnt:Nat) (ss:List (Int × Int)),wr.ranges Tryz.prog 42 (plainElem Tryz.prog 4) b W.heap.size nn D0 left cnt/\ColP ps left ss/\J ss wr)
  (fun _ wr=>wr.rangeLeft b W.heap.size)
 case atStart=>
  exact ⟨_,_,[],hrg0,⟨List.nodup_nil,fun z=>⟨fun h=>(by cases h),fun ⟨a,c⟩=>(by
   have h2:=hh4 z a;rw [hh2 z.1 z.2 h2.1 h2.2] at c
   simp [a] at c)⟩⟩,hJ _ _ _ h0 (Turn.of_below ⟨hg0.os,hg0.tape,hg0.output,hg0.size,fun k hk=>hg0.block k hk (by simp)⟩)⟩
 case round=>
  obtain ⟨left,cnt,ss,hrg,hC,hJs⟩:=hrel
  gi_wp2_with (first
   | (gi_at_next;refine wpListIn_next_ranges _ rfl _ rfl 42 HK.out (plainElem Tryz.prog 4) encP id (fun key kl hk=>by obtain ⟨a,c,e,_⟩:=gL arrP Tryz.underlying3 progN hk;exact ⟨(a,c),e⟩) (fun v _ _=>⟨v,rfl⟩) b W.heap.size nn _ _ _ rfl hrg ?_ ?_)
   | gi_in)
  ·intro hc0 hl0;gi_wp2
   go_end0
   exact ⟨⟨_,rfl⟩,.inl ⟨ss,⟨hC.1,fun z=>(hC.2 z).trans ⟨fun h=>h.1,fun h=>⟨h,hl0 _⟩⟩⟩,hJs⟩⟩
  ·intro xa xb c kl yd yp w2 cnt2 hkey hlk hv hat hrg2 hlt hg2 hs2 hen;obtain ⟨ya,yb,ey,wa,wb,rfl⟩:=gL arrP Tryz.underlying3 progN hkey;unfold encP at ey;simp only [Value.agg.injEq] at ey;obtain ⟨rfl,rfl⟩:xa=ya/\xb=yb:=by simpa using ey
   have hhas:=has_true_of_atKey hat;obtain ⟨s,t,hst,est⟩:=hh3 _ hhas;obtain ⟨ws,wt⟩:=hh4 _ hst;obtain ⟨rfl,rfl⟩:=fT wa wb ws wt est
   have hns:(xa,xb)∉ss:=fun hm=>by
    have:=((hC.2 _).1 hm).2;unfold pairL at this;rw [hlk] at this;cases this
   obtain ⟨ms,ss0,ts0,cs0,hit⟩:=lF hrg
   have hJ2:J ss w2:=hJ _ _ _ hJs ⟨hg2.os,hg2.tape,hg2.output,hg2.size,fun k hk hA=>hg2.block k hA (by simp;omega),fun k o hA ho=>(hg2.block k (Array.getElem?_eq_some_iff.1 hA).1 (fun e=>by
    injection e with e;subst e
    rw [hit] at hA;injection hA with hA;subst hA;cases ho)).trans hA⟩
   have hJ3:J ss (w2.alloc (.cells #[.int .i64 xa,.int .i64 xb] 42)):=hJ _ _ _ hJ2 (Turn.of_below (alF _ _));obtain ⟨fn,tmps,assign,body,hy,hR⟩:=hY ss (xa,xb) _ ⟨hst,hns⟩ hJ3;have hrg3:=lE hrg2 ((alF w2 (.cells #[.int .i64 xa,.int .i64 xb] 42)).block _ (lD hrg2).2) ((alF w2 (.cells #[.int .i64 xa,.int .i64 xb] 42)).block _ (lD hrg2).1)
   have hC2:ColP ps (fun z=>left z && !z.sameKey (.string (keyBytes [.int .i64 xa,.int .i64 xb]))) (ss ++ [(xa,xb)]):=by
    refine ⟨gU hC.1 (fun y hy e=>hns (e ▸ hy)),fun z=>?_⟩;obtain ⟨z1,z2⟩:=z;rw [cL,bU,hC.2];by_cases e:(z1,z2)=(xa,xb)
    ·injection e with e1 e2
     subst e1 e2;have hself:(pairL z1 z2).sameKey (.string (keyBytes [.int .i64 z1,.int .i64 z2]))=true:=WideAt.sameKey_self (a:=pairL z1 z2) trivial;simp only [hself,Bool.not_true,Bool.and_false,and_true,or_true,true_iff];exact hst
    ·constructor
     ·rintro (⟨a,c⟩ | e')
      ·exact ⟨a,by simp only at c ⊢;rw [c,Bool.false_and]⟩
      ·exact absurd e' e
     ·rintro ⟨a,c⟩;refine .inl ⟨a,?_⟩;have h2:=hh4 _ a
      have hd:(pairL z1 z2).sameKey (.string (keyBytes [.int .i64 xa,.int .i64 xb]))=false:=by
       rw [Bool.eq_false_iff];intro hs;have:=WideAt.sameKey_eq hs;obtain ⟨e1,e2⟩:=fT h2.1 h2.2 wa wb this;exact e (Prod.ext e1 e2)
      simpa [hd] using c
   unfold encP at hy hen ⊢;simp only at hy hen ⊢;clear hs2;gi_wp2
   refine hR.mono ?_;obtain ⟨ms1,ss1,ts1,cs1,hit3⟩:=lF hrg3;have hb3:=(lD hrg3).2;rintro e W4 (⟨rfl,hJ4,hk4⟩ | ⟨rfl,hx4⟩)
   ·gi_wp2
    have hrg4:=lE hrg3 (hk4.low b hbl hb3) ((hk4.same _ _ (bA _) hit3 rfl).trans hit3.symm);go_roundw
    case rel=>exact ⟨_,cnt2,ss ++ [(xa,xb)],hrg4,hC2,hJ4⟩
    case measure=>rw [hrg4.left_eq,hrg.left_eq];exact hlt
   ·gi_wp2
    first | (simp only [Exit.inBlock,Exit.then];refine bodyPost_ret (results_none rfl _ _ _) rfl ?_) | refine bodyPost_ret (results_none rfl _ _ _) rfl ?_
    exact ⟨⟨_,rfl⟩,.inr ⟨ss,(xa,xb),⟨hst,hns⟩,hx4⟩⟩
end
section
open Go Go.RowKit Go.Maps Go.WideMaps Go.Sort Go.Shelf
structure ApS (W0:World) (lc:Nat) (W:World) (v:Value) (L:List (Int × Int)):Prop where
 head:W.heap[lc]?=some (.cells #[v] 23 (0,0))
 own:W.ownsRow W0.heap.size 42 2 v L.length (L.flatMap prC)
 eb:Eb W0 lc W
section
variable {W0 A B:World} {lc lr:Nat} {v:Value} {L:List (Int × Int)}
theorem ApS.turn (h:ApS W0 lc A v L) (hl:lc<W0.heap.size) {T:TypeId->Bool} (hT:T 42=false) (ht:Turn W0.heap.size T A B):ApS W0 lc B v L:=
 ⟨ht.block_low hl h.head,ht.grownBy hT h.own,h.eb.turn ht⟩
theorem ApS.then_ (h:ApS W0 lc A v L) (hb:Below A.heap.size A B):ApS W0 lc B v L:=
 ⟨(hb.block _ (Array.getElem?_eq_some_iff.1 h.head).1).trans h.head,dE h.own hb,h.eb.then_ hb⟩
theorem ApS.rec_ (h:ApS W0 lc A v L) (hr:Rec lr A B) (hl:W0.heap.size<=lr):ApS W0 lc B v L:=by
 refine ⟨hr.cells h.head,⟨h.own.1,?_⟩,⟨hr.os.trans h.eb.os,hr.tape.trans h.eb.tape,hr.output.trans h.eb.output,by rw [hr.size];exact h.eb.size,fun k hk hne=>(hr.block k (by omega)).trans (h.eb.keep k hk hne)⟩⟩;rcases h.own.2 with hn | ⟨g,cap,cur,hv,hg,hh,rest⟩
 ·exact .inl hn
 ·exact .inr ⟨g,cap,cur,hv,hg,hr.cells hh,rest⟩
end
theorem xDL (n:Nat) (hn:3<=n) (Bm b nn:Nat) (ps:List (Int × Int)) (w:World) (hBm:Bm<w.heap.size) (hm0:w.cell? ⟨Bm,0,none⟩=some (.map (some b))) (hown0:OwnP w b nn ps) (hps:ps.length<=1000000000000):
 CallsIn Fence.wide n Tryz.prog 164 #[.slice none 0 0,.func (.func 134) #[] #[.pointer (some ⟨Bm,0,none⟩)]] w fun e w'=>∃(v:Value) (L:List (Int × Int)),e = .returned v/\(L.Nodup/\∀z,z∈L↔z∈ps)/\w'.ownsRow w.heap.size 42 2 v L.length (L.flatMap prC)/\Below w.heap.size w w':=by
 have hseq:=keysM (n - 1) (by omega) Bm b nn ps w hBm hm0 hown0;obtain ⟨i0,hi0,hq0,hq1,hq2⟩:=info_parts wH;obtain ⟨W0,hW0⟩:∃W,w.alloc (.cells #[.slice none 0 0] 23)=W:=⟨_,rfl⟩;have hb0:Below w.heap.size w W0:=by rw [<- hW0];exact alF _ _
 have hz0:W0.heap.size=w.heap.size+1:=by rw [<- hW0];simp
 have hh0:W0.heap[w.heap.size]?=some (.cells #[.slice none 0 0] 23 (0,0)):=by rw [<- hW0];exact kK _ _ _ rfl
 refine callsIn_of_wp_marks Tryz.func164 rfl trivial ?_ rfl;simp only [Tryz.ntmps164,List.size_toArray,bN,bQ,Nat.reduceAdd,Nat.reduceSub,Array.replicate_succ,Array.replicate_zero,List.push_toArray,List.append_toArray,List.nil_append,List.cons_append];gi_wp2
 clear hW0
 refine pM rfl (by omega) (gf:=134) (lb:= #[.pointer (some ⟨Bm,0,none⟩)]) rfl trivial (enters_of Tryz.func134 (by kernel_rfl) rfl)
  hseq hb0 (fun k hk=>by omega) (fun _=>rfl)
  (fun pre W=>(pre.Nodup/\∀z∈pre,z∈ps)/\∃v,ApS W0 w.heap.size W v pre)
  (fun _ _ _=>False)
  (fun s A B ⟨hn,v,hs⟩ ht=>⟨hn,v,hs.turn (by omega) rfl ht⟩) (fun _ _ _ _ hs _=>hs)
  ⟨⟨List.nodup_nil,by simp⟩,_,hh0,World.ownsRow_nil _ _ _ _,Eb.refl _ _⟩ ?round ?done ?stop
 case round=>
  rintro lr pre ⟨xa,xb⟩ W hL hlr ⟨rr,hr⟩ hWs ⟨hnd,v,hE⟩;simp only [encP,List.zip_toArray,List.zip_cons_cons];gi_wp2_with gi_round_op_a
  refine ⟨(Kb.refl _ _ _ _).alloc _,fun W2 hrec=>?_⟩;obtain ⟨WL,hWL⟩:∃X,W.alloc (.cells #[.int .i64 xa,.int .i64 xb] 42)=X:=⟨_,rfl⟩;rw [hWL] at hrec;have hbl1:Below W.heap.size W WL:=by rw [<- hWL];exact alF _ _
  have hE2:=(hE.then_ hbl1).rec_ hrec hlr;obtain ⟨l0,l1⟩:=fO W (.int .i64 xa) (.int .i64 xb) 42;rw [hWL] at l0 l1;replace l0:=hrec.cell l0;replace l1:=hrec.cell l1;have hsz2:W2.heap.size=W.heap.size+1:=by rw [hrec.size,<- hWL];simp
  have hh:=hE2.head;have c0:W2.cell? ⟨w.heap.size,0,none⟩=some v:=cR (l:=[v]) hh 0 _ rfl;have hown:=hE2.own;obtain ⟨VA,vc,rfl⟩:=cW hown;have hns:((xa,xb) :: pre).Nodup/\∀z∈(xa,xb) :: pre,z∈ps:=⟨List.nodup_cons.2 ⟨hL.2,hnd.1⟩,fun z hz=>(List.mem_cons.1 hz).elim (fun e=>e ▸ hL.1) (hnd.2 z)⟩;have hpl:pre.length+1<=ps.length:=by simpa using iD ((xa,xb) :: pre) ps hns.1 hns.2
  have HND:Hid ((pre ++ [(xa,xb)]).Nodup/\∀z∈pre ++ [(xa,xb)],z∈ps):=aH ⟨gU hnd.1 (fun y hy e=>hL.2 (e ▸ hy)),fun z hz=>(List.mem_append.1 hz).elim (hnd.2 z) (fun h=>by rw [List.mem_singleton.1 h];exact hL.1)⟩;have hown2:=hown.alloc (.cells #[.int .i64 xa,.int .i64 xb] 42);have HE2:=aH hE2;have hszW:=hE2.eb.size;clear hE hE2 hWL hbl1 hseq hr hns hnd hL hsz2;gi_wp2_with (first | (gi_at_builtin;refine wpListIn_append_own_at _ rfl _ _ 23 rfl W0.heap.size 42 i0 _ 2 16 Tryz.underlying23 hi0 hq0 hq1 hq2 rfl (by decide) (.slice VA pre.length vc) _ _ rfl hown2 ⟨W2.heap.size,0,none⟩ 1 1 (prC (xa,xb)) rfl rfl (fun j u hj=>by rw [add0];exact fR _ _ _ j u hj) (fun u hu=>by simp [prC] at hu;rcases hu with rfl | rfl <;> rfl) (by unfold maxLen;omega) (by omega) (by simp;omega) ?_;intro v' w5 hown' hgrow _ hloc;obtain ⟨VB,vd,rfl⟩:=cW hown';have hh5:w5.heap[w.heap.size]?=some (.cells #[.slice VA pre.length vc] 23 (0,0)):=(hgrow.block _ (by simp;omega) (dQ hown2 (by omega))).trans (((aZ _ _).alloc (bA _) _).block _ (by omega) |>.trans hh);have c5:=cR (l:=[.slice VA pre.length vc]) hh5 0 _ rfl;have hf5:w5.frozen? ⟨w.heap.size,0,none⟩=false:=by simp [World.frozen?,hh5]) | gi_round_op_a)
  have hal:Below W2.heap.size W2 (W2.alloc (.cells #[.int .i64 xa,.int .i64 xb] 42)):=alF _ _;have hlo:=fun g hg=>(hown2.lt g hg).1
  have hset:∀k,k≠w.heap.size->(w5.setCell ⟨w.heap.size,0,none⟩ (.slice VB (pre.length+1) vd)).heap[k]?=w5.heap[k]?:=fun k hk=>bJ w5 ⟨w.heap.size,0,none⟩ _ k hk
  refine ⟨?_,HND.out,_,gF hh5,?_,((HE2.out.eb.then_ hal).grown hgrow hlo).set 0 _⟩
  ·refine (((Kb.refl _ _ _ _).then_ hal).grown hgrow (fun g hg=>⟨.inl (fun h=>?_),.inr (.inr ?_)⟩)).setLow (p:=⟨w.heap.size,0,none⟩) _ (by simp) (by simp;omega)
   ·have:=hlo g hg;omega
   ·rcases hown2.2 with ⟨h1,_⟩ | ⟨g',cap,cur,h1,_,h2,_⟩
    ·rw [h1] at hg;cases hg
    ·rw [h1] at hg;injection hg with hg;subst hg;exact ⟨_,_,_,h2,rfl⟩
  ·rw [bE,cC];refine dC (A:=w5) (by simpa using hown') (fun k hk _ _=>hset k (by omega))
 case done=>
  rintro D L W hD hL ⟨hnd,v,hE⟩ hK;have c0:=cR (l:=[v]) hE.head 0 _ rfl;have hE2:=aH hE;have HO:=aH hE.own;clear hE hseq;gi_wp2
  refine ⟨by simp,.inl ⟨_,_,rfl,run_takeDeferred (w:=W) hK,?_⟩⟩;refine ⟨_,results_tmp rfl _ _ _,v,L,rfl,hL,?_,below_put (hE2.out.eb.below hb0 (bA _)) (by omega)⟩;exact vG (HO.out.kept (grownBy_putObj_a _ _ _) (ownsRow_ne_a HO.out hK (fun cur e=>by cases e))) (by omega)
 case stop=>exact fun _ _ _ _ _ _ _ h=>h.elim
theorem xAY (Bm b nn:Nat) (ps:List (Int × Int)) (w:World) (hBm:Bm<w.heap.size) (hm0:w.cell? ⟨Bm,0,none⟩=some (.map (some b))) (hown0:OwnP w b nn ps) (hps:ps.length<=1000000000000):
 Calls Tryz.prog 164 #[.slice none 0 0,.func (.func 134) #[] #[.pointer (some ⟨Bm,0,none⟩)]] w fun e w'=>∃(v:Value) (L:List (Int × Int)),e = .returned v/\(L.Nodup/\∀z,z∈L↔z∈ps)/\w'.ownsRow w.heap.size 42 2 v L.length (L.flatMap prC)/\Below w.heap.size w w':=
 (callsIn_wide (n:=5)).1 (xDL 5 (by omega) Bm b nn ps w hBm hm0 hown0 hps)
theorem xD (Bm b nn:Nat) (ps:List (Int × Int)) (w:World) (hBm:Bm<w.heap.size) (hm0:w.cell? ⟨Bm,0,none⟩=some (.map (some b))) (hown0:OwnP w b nn ps) (hps:ps.length<=1000000000000):
 Calls Tryz.prog 133 #[.func (.func 134) #[] #[.pointer (some ⟨Bm,0,none⟩)]] w fun e w'=>∃(v:Value) (L:List (Int × Int)),e = .returned v/\(L.Nodup/\∀z,z∈L↔z∈ps)/\w'.ownsRow w.heap.size 42 2 v L.length (L.flatMap prC)/\Below w.heap.size w w':=by
 have HA:=aH (xAY Bm b nn ps w hBm hm0 hown0 hps);clear hBm hm0 hown0 hps;go_enter Tryz.func133,Tryz.ntmps133
 go_wp2_with (go_at_call 164;refine HA.out.mono ?_;rintro e' w1 ⟨v,L,rfl,hL,hr,hb⟩;have HL:=aH hL;have HR:=aH hr;have HB:=aH hb;clear hL hr hb)
 go_ret;exact ⟨v,L,rfl,HL.out,HR.out,HB.out⟩
end
section
open Go Go.RowKit Go.Maps Go.Lib Go.Sort
attribute [local irreducible] Calls
theorem lX (x y:Int × Int):cmp2 x y<0↔lt2 x y:=by
 unfold cmp2 lt2;split
 ·simp;omega
 ·split
  ·simp;omega
  ·split
   ·simp;omega
   ·split
    ·simp;omega
    ·simp;omega
theorem zB (x y:Int × Int) (W:World):
 Calls Tryz.prog 88 #[.agg #[.int .i64 x.1,.int .i64 x.2],.agg #[.int .i64 y.1,.int .i64 y.2]] W fun e' w'=>e' = .returned (.int .i64 (cmp2 x y))/\∃q os',w'=grow (W.drewN q) os':=by
 have HC:=aH (fun V h1 h2 h3 h4=>gB x y W.heap.size 0 (W.heap.size+1) 0 V h1 h2 h3 h4);obtain ⟨x1,x2⟩:=x;obtain ⟨y1,y2⟩:=y;simp only at HC ⊢;generalize cmp2 (x1,x2) (y1,y2)=r at *;go_enter Tryz.func88,Tryz.ntmps88
 go_wp2_with fail
 obtain ⟨W2,hW2⟩:∃X,(W.alloc (.cells #[.int .i64 x1,.int .i64 x2] 42)).alloc (.cells #[.int .i64 y1,.int .i64 y2] 42)=X:=⟨_,rfl⟩
 have hgr:∃q os',W2.drew=grow (W.drewN q) os':=⟨1,#[.cells #[.int .i64 x1,.int .i64 x2] 42,.cells #[.int .i64 y1,.int .i64 y2] 42],by
  rw [<- hW2,alloc_eq_grow,alloc_eq_grow,grow_grow];rfl⟩
 have HG:=aH hgr;obtain ⟨a0,a1⟩:=fO W (.int .i64 x1) (.int .i64 x2) 42;obtain ⟨b0,b1⟩:=fO (W.alloc (.cells #[.int .i64 x1,.int .i64 x2] 42)) (.int .i64 y1) (.int .i64 y2) 42;replace a0:=cQ (alF _ (.cells #[.int .i64 y1,.int .i64 y2] 42)) a0;replace a1:=cQ (alF _ (.cells #[.int .i64 y1,.int .i64 y2] 42)) a1;rw [bK] at b0 b1;rw [hW2] at a0 a1 b0 b1 ⊢;have hS:(fun X=>X.cell? ⟨W.heap.size,0,none⟩=some (.int .i64 x1)/\X.cell? ⟨W.heap.size,0+1,none⟩=some (.int .i64 x2)/\X.cell? ⟨W.heap.size+1,0,none⟩=some (.int .i64 y1)/\X.cell? ⟨W.heap.size+1,0+1,none⟩=some (.int .i64 y2)) W2.drew:=⟨a0,a1,b0,b1⟩;clear hW2 hgr a0 a1 b0 b1;refine cZ (S:=fun X=>X.cell? ⟨W.heap.size,0,none⟩=some (.int .i64 x1)/\X.cell? ⟨W.heap.size,0+1,none⟩=some (.int .i64 x2)/\X.cell? ⟨W.heap.size+1,0,none⟩=some (.int .i64 y1)/\X.cell? ⟨W.heap.size+1,0+1,none⟩=some (.int .i64 y2)) [0,1,2,3] (by kernel_rfl) ?_;(iterate 2 (refine cY (v:=?_) ?_ hS ?_;rotate_left;(next=>(rintro X ⟨q1,q2,q3,q4⟩;(try simp only [aK]);go_simp;rfl));simp only [aO]));(refine cX (fun K1 hK1=>?_);simp only [aO];rw [bD (by rfl)];go_simp);have HS:=aH hS;have HC2:=aH (HC.out W2.drew hS.1 hS.2.1 hS.2.2.1 hS.2.2.2);go_at_call 36
 refine HC2.out.mono ?_;rintro e' w3 ⟨rfl,hw⟩;obtain rfl:=hw.symm;refine hK1.out _ _ (fun _=>HS.out) ?_;have hS:=HS.out;((refine cY (v:=?_) ?_ hS ?_;rotate_left;(next=>(rintro X ⟨q1,q2,q3,q4⟩;(try simp only [aK]);go_simp;rfl));simp only [aO]))
 refine dI ?_;clear hS;go_wp2_with fail
 go_ret;exact ⟨rfl,HG.out⟩
theorem swo2:SWO (fun x y:Int × Int=>decide (cmp2 x y<0)) where
 irrefl x:=by rw [decide_eq_false_iff_not,lX];exact fun h=>iE h h
 trans x y z h1 h2:=by
  rw [decide_eq_true_iff,lX] at *;unfold lt2 at *;omega
 ntrans x y z h1 h2:=by
  rw [decide_eq_false_iff_not,lX] at *;unfold lt2 at *;omega
theorem xAS {x y:Int × Int} (h1:decide (cmp2 x y<0)=false) (h2:decide (cmp2 y x<0)=false):x=y:=by
 rw [decide_eq_false_iff_not,lX] at h1 h2;rcases lt2_tri x y with h | h | h
 ·exact absurd h h1
 ·exact h
 ·exact absurd h h2
end
section
open Go Go.RowKit Go.Maps Go.Lib Go.Sort Go.Shelf
attribute [local irreducible] Calls
theorem nP:∀(d:List (Int × Int)) (t:Nat),t<d.length * 2->(d.flatMap prC)[t]?=some ((prC d[t / 2]!)[t % 2]!)
 | [],t,h=>by simp at h
 | z :: d,0,_=>rfl
 | z :: d,1,_=>rfl
 | z :: d,t+2,h=>by
   have h1:=nP d t (by simp at h;omega);rw [List.flatMap_cons,show prC z=[.int .i64 z.1,.int .i64 z.2] from rfl,show (t+2) / 2=t / 2+1 by omega,show (t+2) % 2=t % 2 by omega];simpa using h1
theorem iF:∀(d:List (Int × Int)),(d.flatMap prC).length=d.length * 2
 | []=>rfl
 | z :: d=>by rw [List.flatMap_cons,bE,iF d];simp [prC];omega
theorem flat2 (d:List (Int × Int)):flatK prC 2 d.toArray=(d.flatMap prC).toArray:=by
 apply Array.ext_getElem?
 intro t;by_cases h:t<d.length * 2
 ·have hs:t<(flatK prC 2 d.toArray).size:=by simpa using h
  have e1:(flatK prC 2 d.toArray)[t]?=some ((flatK prC 2 d.toArray)[t]!):=by rw [Array.getElem?_eq_getElem hs,getElem!_pos _ t hs]
  have e2:(d.flatMap prC).toArray[t]?=(d.flatMap prC)[t]?:=by simp
  rw [e1,e2,nP d t h,get_flatK _ _ _ _ (by simpa using h)];simp
 ·rw [Array.getElem?_eq_none (by simp;omega),List.getElem?_toArray,cG (by rw [iF];omega)]
theorem xEW {w:World} {g:Nat} {cur:Array Value} {e:TypeId} {zs:List (Int × Int)} (hb:w.heap[g]?=some (.cells cur e (0,0))) (ht:cur.toList.take (zs.length * 2)=zs.flatMap prC):HoldsK prC 2 w g 0 zs.toArray:=by
 intro j hj;have hj':j<zs.length * 2:=by simpa using hj
 refine ⟨?_,by simp [World.frozen?,hb]⟩;have h1:=nP zs j hj';rw [<- ht,List.getElem?_take_of_lt hj'] at h1;rw [get_flatK _ _ _ _ (by simpa using hj')];simp only [World.cell?,hb,Nat.zero_add,Option.isSome_none,Bool.false_eq_true,if_false];rw [<- Array.getElem?_toList,h1];simp
theorem pB {w:World} {g n:Nat} {os:Array Obj} {cur:Array Value} {e:TypeId} {fr:Nat × Nat} (d:Array Value) (hb:w.heap[g]?=some (.cells cur e fr)):
 (grow (putRow id (Sort.ahead w n) g 0 d) os).heap[g]?=some (.cells (putCells id 0 d cur) e fr):=by
 have hg:g<w.heap.size:=(Array.getElem?_eq_some_iff.1 hb).1;rw [heap_grow_old _ _ (by simpa using hg)];simp [putRow,mapBlock,Sort.ahead,Array.getElem?_modify,hb,onCells]
theorem lU {w:World} {g n:Nat} {os:Array Obj} (d:Array Value):w.grownBy (grow (putRow id (Sort.ahead w n) g 0 d) os) (some g):=by
 refine ⟨rfl,rfl,rfl,by simp,fun k hk hne=>?_⟩;rw [heap_grow_old _ _ (by simpa using hk)];have:g≠k:=fun e=>hne (by rw [e])
 simp [putRow,mapBlock,Sort.ahead,Array.getElem?_modify,this]
theorem mD (cur:Array Value) (ts:List Value) (h:ts.length<=cur.size):(putCells id 0 ts.toArray cur).toList.take ts.length=ts:=by
 apply List.ext_getElem?
 intro j;by_cases hj:j<ts.length
 ·rw [List.getElem?_take_of_lt hj,Array.getElem?_toList];simp [putCells,hj,show j<cur.size by omega]
 ·rw [List.getElem?_take_eq_none (by omega),cG (by omega)]
theorem uH {zs:List (Int × Int)} (h:zs.Nodup):Srt2 (zs.mergeSort fun x y=> !(ltOf cmp2) y x) (fun z=>z∈zs):=by
 have hp:=List.mergeSort_perm zs (fun x y=> !(ltOf cmp2) y x);refine ⟨?_,fun x=>hp.mem_iff⟩
 have hs:(zs.mergeSort fun x y=> !(ltOf cmp2) y x).Pairwise (fun a b=>(!(ltOf cmp2) b a)=true):=List.pairwise_mergeSort
  (fun a b c h1 h2=>by
    rw [Bool.not_eq_true'] at *
    exact swo2.ntrans c b a h2 h1)
  (fun a b=>by
    rw [Bool.or_eq_true,Bool.not_eq_true',Bool.not_eq_true'];cases e:(ltOf cmp2) b a
    ·exact .inl rfl
    ·exact .inr (swo2.asymmA e)) zs
 refine (hs.and (hp.nodup_iff.2 h)).imp ?_;rintro a b ⟨h1,h2⟩;rw [Bool.not_eq_true'] at h1
 have h3:¬lt2 b a:=fun e=>by
  have:(ltOf cmp2) b a=true:=decide_eq_true ((lX b a).2 e);rw [h1] at this;cases this
 rcases lt2_tri a b with e | e | e
 ·exact e
 ·exact absurd e h2
 ·exact absurd e h3
theorem uG (W:World) (base n:Nat) (v:Value) (zs:List (Int × Int)) (h:W.ownsRow base 42 2 v n (zs.flatMap prC)) (hn:zs.length=n) (hsz:n<4611686018427387904):
 Calls Tryz.prog 50 #[v,.func (.func 88) #[] #[]] W fun e w'=>e = .returned (.tuple #[])/\w'.ownsRow base 42 2 v n ((zs.mergeSort fun x y=> !(ltOf cmp2) y x).flatMap prC)/\W.grownBy w' v.ownBlock:=by
 subst hn;rcases h.2 with ⟨rfl,hz⟩ | ⟨g,cap,cur,rfl,hb,hh,hnc,hcm,hcs,htk⟩
 ·have hz2:=bW hz;subst hz2;refine (AnyF.slices_SortFunc_none Tryz.sortP none 0 _ W).mono ?_;rintro e w' ⟨rfl,rfl⟩;exact ⟨rfl,by simpa using h,⟨rfl,rfl,rfl,bA _,fun _ _ _=>rfl⟩⟩
 ·have hold:=xEW (zs:=zs) hh htk;have hc:=AnyQ.slices_SortFunc_total Tryz.sortP 2 Tryz.isAgg42 Tryz.sizeOf42 prC (fun _=>rfl) (fun x v hv=>by simp [prC] at hv;rcases hv with rfl | rfl <;> rfl) cmp2 swo2 88 #[] g 0 cap zs.toArray W (enters_of Tryz.func88 (by kernel_rfl) rfl) (fun m os dk _ x y=>zB x y _) hold (Array.getElem?_eq_some_iff.1 hh).1 (by simpa using hsz) (fun x y h1 h2=>xAS h1 h2);rw [List.size_toArray] at hc;refine Calls.mono hc ?_;rintro e w' ⟨rfl,q,os,rfl⟩;simp only [];obtain ⟨ss,hss⟩:∃ss,(zs.mergeSort fun x y=> !(ltOf cmp2) y x)=ss:=⟨_,rfl⟩;have hsl:ss.length=zs.length:=by rw [<- hss];simp
  have hfl:=iF ss;rw [hss];unfold sortWorldK putRowK;rw [flat2];refine ⟨trivial,⟨by rw [hfl,hsl],.inr ⟨g,cap,_,rfl,hb,pB _ hh,hnc,hcm,by simp [putCells,hcs],?_⟩⟩,lU _⟩
  have:=mD cur (ss.flatMap prC) (by
   have:=congrArg List.length htk;rw [iF,cO] at this;rw [hfl,hsl];simp at this
   omega)
  rw [hfl,hsl] at this;exact this
theorem pR (Bm b nn:Nat) (ps:List (Int × Int)) (w:World) (hBm:Bm<w.heap.size) (hm0:w.cell? ⟨Bm,0,none⟩=some (.map (some b))) (hown0:OwnP w b nn ps) (hps:ps.length<=1000000000000):
 Calls Tryz.prog 86 #[.func (.func 134) #[] #[.pointer (some ⟨Bm,0,none⟩)],.func (.func 88) #[] #[]] w fun e w'=>∃A c s,e = .returned (.slice A s.length c)/\Srt2 s (fun z=>z∈ps)/\Slc 2 RPr w' A c s/\Below w.heap.size w w':=by
 have HA:=aH (xD Bm b nn ps w hBm hm0 hown0 hps);have HPS:=aH hps;clear hBm hm0 hown0 hps;go_enter Tryz.func86,Tryz.ntmps86
 go_wp2_with (first
  | (go_at_call 50;refine HSO.out.mono ?_;rintro e' w2 ⟨rfl,ho2,hg2⟩;have HO2:=aH ho2;have HG2:=aH hg2;clear ho2 hg2)
  | (go_at_call 133;refine HA.out.mono ?_;rintro e' w1 ⟨v,L,rfl,hL,hr,hb⟩;have HL:=aH hL;have HLT:=aH hr.lt;have hll:=iD L ps hL.1 (fun x hx=>(hL.2 x).1 hx);have HSO:=aH (uG w1 _ _ v L hr rfl (by have:=HPS.out;omega));have HB:=aH hb;clear hL hr hb hll))
 go_ret;have hs:=uH HL.out.1;obtain ⟨A,c,rfl,h5⟩:=kQ HO2.out (by simp);refine ⟨A,c,_,by simp,hs.iff HL.out.2,h5,HB.out.grown HG2.out HB.out.size (fun g hg=>(HLT.out g hg).1)⟩
end
section
open Go Go.RowKit Go.Maps Go.Sort
attribute [local irreducible] Calls
theorem RSl.keepsC {α : Type} {k:Nat} {R:Rd α} (hR:R.KeepsC):(RSl k R).KeepsC:=fun _ _ _ _ _ _ _ hB hk ⟨A,c,h1,h2,h3,h4⟩=>⟨A,c,hk.cell _ _ h1,h2,h3,h4.keepC hR hB hk⟩
def MnR (b:Bdy) (x r:Int):Prop:=∃l,b.locals[x.toNat]?=some l/\∃z t,Rt b.types l.type z/\b.types[z.toNat]?=some t/\t.kind=3/\t.reg=r
structure PrW (w0 w2:World) (M:Nat) (ps:List (Int × Int)) (W:World):Prop where
 low:Below w0.heap.size w0 W
 kc:Kc w2 W
 own:OwnP W M ps.length ps
theorem PrW.keep {w0 w2:World} {M:Nat} {ps:List (Int × Int)} {W W':World} (h:PrW w0 w2 M ps W) (hb:Below W.heap.size W W'):PrW w0 w2 M ps W':=
 ⟨h.low.trans (hb.mono h.low.size),h.kc.trans (.of_below hb),h.own.below hb⟩
theorem PrW.put {w0 w2:World} {M:Nat} {ps:List (Int × Int)} {W W':World} (h:PrW w0 w2 M ps W) (hM:w0.heap.size<=M) {z:Int × Int} (ho:OwnP W' M (ps.length+1) (z :: ps)) (hg:W.grownBy W' (some M)):PrW w0 w2 M (z :: ps) W':=by
 obtain ⟨es,clock,h1⟩:=h.own.obj;exact ⟨h.low.trans (dN hg hM h.low.size),h.kc.trans (Kc.of_grown (fun cs e z g=>by rw [h1] at g;cases g) hg),ho⟩
theorem PrW.grow {w0 w2:World} {M:Nat} {ps:List (Int × Int)} {W W':World} (h:PrW w0 w2 M ps W) (h0:w0.heap.size<=w2.heap.size) (hM:M<w2.heap.size) {e:TypeId} {k m:Nat} {v:Value} {xs:List Value} (ho:W.ownsRow w2.heap.size e k v m xs) (hg:W.grownBy W' v.ownBlock):PrW w0 w2 M ps W':=
 ⟨h.low.grown hg h.low.size (fun g e=>cA h0 (ho.lt g e).1),
  ⟨fun a u hc=>(World.cell?_of_block (a:=a) (hg.block _ (bP (cF _ _ hc) h.kc.size) (dQ ho (cF _ _ hc)))).trans (h.kc.cell a u hc),cA h.kc.size hg.size⟩,
  h.own.block (hg.block _ (bP hM h.kc.size) (dQ ho hM))⟩
theorem jA {P:Program} {w:World} (base:Nat) (t ty e:TypeId) (i:TypeInfo) (size:Nat) (ht:P.underlying t=some (.slice e)) (hi:P.info? e=some i)
 (v:Value) (n c:Nat) (xs:List Value) (hown:w.ownsRow base e size v n xs):(Builtin.append_ #[t,t] ty #[v,.slice none 0 c]).run P w = .ok v w:=by
 rcases hown.2 with ⟨rfl,rfl⟩ | ⟨g,cap,cur,rfl,_,_,hnc,_⟩
 ·simp [Builtin.append_,run_underlying ht,sizeOf,typeInfo,hi,Builtin.lenOf,Builtin.firstCells]
 ·simp [Builtin.append_,run_underlying ht,sizeOf,typeInfo,hi,Builtin.lenOf,Builtin.firstCells,hnc,storeCells]
theorem pK {P:Program} {o:Oper} {a:Act} {w:World} {K:Act->World->Prop} {Q:Exit->Act->World->Prop} (s x:Operand) (t:TypeId)
 (ho:o.op = .call { callee:= .builtin .append,args:= #[s,x],argTypes:= #[t,t] })
 (base:Nat) (e:TypeId) (i:TypeInfo) (size:Nat) (ht:P.underlying t=some (.slice e)) (hi:P.info? e=some i)
 (v:Value) (n:Nat) (xs:List Value) (hs:a.eval s=v) (hown:w.ownsRow base e size v n xs) (c:Nat) (hx:a.eval x = .slice none 0 c)
 (h:K (a.put o.dst v) w):o.wp P a w K Q:=by
 have hrun:=jA (P:=P) (w:=w) base t o.type e i size ht hi v n c xs hown;unfold Oper.wp execOp;simp only [ho,resolve,invoke,builtin,Sem.run_bind,Sem.run_pure,Result.andThen_ok,List.map_toArray,List.map_cons,List.map_nil,hs,hx,hrun];exact h
theorem xEE {ts:List Ty} (hok:TyOk ts) {i j:Int} (h:Rt ts i j):0<=i->0<=j:=
 h.closed (S:=fun z=>0<=z) (fun i t k _ h0 ht hk=>by
  obtain ⟨hl,rfl⟩:=List.getElem?_eq_some_iff.1 ht;have:=hok _ hl;unfold prtT at hk;split at hk
  ·rename_i e;rw [bU] at hk;subst hk;exact (this.1 e).1
  ·exact (this.2 k hk).1)
theorem xER {b:Bdy} (D:DeclOk b) {p:Int} {l ms:List Int} (hl:∀x,x∈l↔Lv b.blocks x p) (hm:∀y,y∈ms↔∃x∈l,MnR b x y) (r:Int):clP b.outl (b.regions.length:Int) ms r↔RlP b r p:=by
 have hf:∀t∈b.types,t.kind≠4->t.flds=[]:=fun t ht=>by
  obtain ⟨i,hi,rfl⟩:=List.getElem_of_mem ht;exact (D.good i hi).2.2.2.2.2
 constructor
 ·rintro ⟨y,hy,h0,h1,hr⟩;obtain ⟨x,hx,lc,hlc,z,t,hz,ht,hk,he⟩:=(hm y).1 hy;have hrr:0<=r/\r<(b.regions.length:Int):=hr.back (S:=fun u=>0<=u/\u<(b.regions.length:Int)) (fun u v _ hp=>⟨(D.pairs _ hp).1,(D.pairs _ hp).2.1⟩) ⟨h0,h1⟩;exact ⟨x,(hl x).1 hx,lc,hlc,y,(oX hf).2 ⟨z,t,hz,xEE D.tyok hz (D.locs lc (List.mem_of_getElem? hlc)).2.1,ht,hk,he⟩,h0,h1,hrr.1,hrr.2,hr⟩
 ·rintro ⟨x,hx,lc,hlc,s,hs,h0,h1,_,_,hr⟩;obtain ⟨z,t,hz,_,ht,hk,he⟩:=(oX hf).1 hs;exact ⟨s,(hm s).2 ⟨x,(hl x).2 hx,lc,hlc,z,t,hz,ht,hk,he⟩,h0,h1,hr⟩
theorem xCS {b:Bdy} {l ms s:List Int} {k:Nat} {x:Int} (h:∀y,y∈ms↔∃x∈l.take k,MnR b x y) (hs:∀y,y∈s↔MnR b x y) (ht:l.take (k+1)=l.take k ++ [x]) (y:Int):y∈ms ++ s↔∃x∈l.take (k+1),MnR b x y:=by
 rw [ht,cL,h,hs];constructor
 ·rintro (⟨z,hz,hm⟩ | hm)
  ·exact ⟨z,by simp [hz],hm⟩
  ·exact ⟨x,by simp,hm⟩
 ·rintro ⟨z,hz,hm⟩;rcases List.mem_append.1 hz with hz | hz
  ·exact .inl ⟨z,hz,hm⟩
  ·rw [List.mem_singleton.1 hz] at hm;exact .inr hm
theorem uU (b:Bdy) (bh:BH) (w:World) (hT:TabsOk w) (H:BdAt w b bh) (h:Ok12 b):
 Calls Tryz.prog 61 #[.agg (bdC b bh).toArray] w fun e' w'=>∃A c s,e' = .returned (.tuple #[.slice A s.length c,.int .i64 0])/\Srt2 s (lvR b)/\Slc 2 RPr w' A c s/\Below w.heap.size w w':=by
 have D:=fG (kJ h.chk);have HK:=aH (fun (W:World) (hb:Below w.heap.size w W)=>mE b bh W (H.keep hb) (hT.keep hb));have HL:=aH (fun (W:World) (hb:Below w.heap.size w W)=>sP b bh W (H.keep hb) h);have HN:=aH (fun (W:World) (hb:Below w.heap.size w W)=>vM b.outl b.regions.length bh.A2 bh.c2 W (H.keep hb).out D.outl (by have:=D.nreg;omega));rw [h.chk] at HK;have hreg:=h.reg;have hcn:=h.cnt;have hrl:=H.reg.le;have hrb:=H.reg.big;have HH:=aH H;have HOK:=aH h;have HD:=aH D;have hmm:= @run_makeMap Tryz.prog;obtain ⟨W0,hW0⟩:∃W0,w.alloc (.cells ([Value.string b.name,.slice bh.A1 b.regions.length bh.c1,.slice bh.A2 b.outl.length bh.c2,.slice bh.A3 b.types.length bh.c3,.slice bh.A4 b.locals.length bh.c4,.int .i64 b.args,.slice bh.A5 b.blocks.length bh.c5]).toArray 59)=W0:=⟨_,rfl⟩;have yy:=cT w [Value.string b.name,.slice bh.A1 b.regions.length bh.c1,.slice bh.A2 b.outl.length bh.c2,.slice bh.A3 b.types.length bh.c3,.slice bh.A4 b.locals.length bh.c4,.int .i64 b.args,.slice bh.A5 b.blocks.length bh.c5] 59;have hb0:=alF w (.cells ([Value.string b.name,.slice bh.A1 b.regions.length bh.c1,.slice bh.A2 b.outl.length bh.c2,.slice bh.A3 b.types.length bh.c3,.slice bh.A4 b.locals.length bh.c4,.int .i64 b.args,.slice bh.A5 b.blocks.length bh.c5]).toArray 59);have hsz:W0.heap.size=w.heap.size+1:=by rw [<- hW0];simp
 rw [hW0] at yy hb0;have HY:=aH yy;have y0:=yy 0 _ rfl;have y1:=yy 1 _ rfl;have y2:=yy 2 _ rfl;have y3:=yy 3 _ rfl;have y4:=yy 4 _ rfl;have y5:=yy 5 _ rfl;have y6:=yy 6 _ rfl;have HB0:=aH hb0;clear yy hb0 H D h hT;unfold newP2 at HN;unfold LocQ at HL;unfold bdC at *;go_enter Tryz.func61,Tryz.ntmps61
 go_wp2_with (first
  | (go_at_call 83;refine (HL.out _ (HB2.out.alloc HB2.out.size _)).mono ?_;rintro e' w4 ⟨A,c,ll,rfl,hll,hsr,hsl,hb4⟩;have HLL:=aH hll;have HSR:=aH hsr;have HSL:=aH hsl;have hsl0:=hsl;have HB4:=aH hb4;clear hll hsr hsl hb4 y0 y1 y2 y3 y4 y5 y6)
  | (go_at_call 82;refine (HN.out _ HB1.out).mono ?_;rintro e' w2 ⟨r0,M0,c0,F0,base0,rfl,hgi,hr0,hm0,hb2⟩;have HR:=aH hgi.rel3;have HB2:=aH (HB1.out.trans (hb2.mono HB1.out.size));have HX2:=aH (HBX.out.trans (hb2.mono HBX.out.size));replace y0:=cQ hb2 y0;replace y1:=cQ hb2 y1;replace y2:=cQ hb2 y2;replace y3:=cQ hb2 y3;replace y4:=cQ hb2 y4;replace y5:=cQ hb2 y5;replace y6:=cQ hb2 y6;have hlw2:w.heap.size<w2.heap.size:=cF _ _ y0;clear hgi hr0 hm0 hb2)
  | (go_at_call 60;refine (HK.out _ HB0.out).mono ?_;rintro e' w1 ⟨rfl,hb1⟩;have HB1:=aH (HB0.out.trans (hb1.mono HB0.out.size));have HBX:=aH hb1;replace y0:=cQ hb1 y0;replace y1:=cQ hb1 y1;replace y2:=cQ hb1 y2;replace y3:=cQ hb1 y3;replace y4:=cQ hb1 y4;replace y5:=cQ hb1 y5;replace y6:=cQ hb1 y6;clear hb1))
 have hlc:=hsl0.le;have hlb:=hsl0.big;rw [HLL.out] at hlc ⊢;have hw4:w2.heap.size<w4.heap.size:=by have:=HB4.out.size;simp at this;omega
 have HP0:Hid (PrW w2 w4 w2.heap.size [] w4):=aH ⟨(alF w2 (.map #[] 0)).trans (HB4.out.mono (by simp)),Kc.refl _,(OwnP.made w2).below HB4.out⟩;have HX4:Hid (Below W0.heap.size W0 w2):=HX2;have HBX4:=aH (HX2.out.trans (HP0.out.low.mono HX2.out.size));have HBW4:=aH (HB2.out.trans (HP0.out.low.mono HB2.out.size));obtain ⟨cn,hcne⟩:∃cn,cntB b.blocks=cn:=⟨_,rfl⟩;have HCN:=aH hcne;rw [hcne] at hcn hlc ⊢;obtain ⟨i0,hi0,hz0,hz1,hz2⟩:=info_parts dV;clear hcne hsl0 HL HK HN;go_loopw [32] (fun iv wr=>∃(p:Nat) (ps:List (Int × Int)),iv = .int .i64 p/\p<=cn/\ps.length<=p * 65536/\Hid (PrW w2 w4 w2.heap.size ps wr)/\Hid (∀z,z∈ps↔lvR b z/\z.2<(p:Int))) (fun iv _=>cn - (intOf iv).toNat)
 case atStart=>exact ⟨0,[],rfl,by omega,by simp,HP0,aH (fun z=>⟨fun h=>(by cases h),fun ⟨h1,h2⟩=>(by have:=RlP.lt h1;omega)⟩)⟩
 case round=>
  clear HP0;obtain ⟨p,ps,rfl,hp,hpn,HP,HM⟩:=hrel;have HBX:=aH (HX4.out.trans (HP.out.low.mono HX4.out.size));by_cases hlt:p<cn
  case neg=>
   obtain rfl:p=cn:=by omega
   have HMA:=aH (fun z=>(HM.out z).trans ⟨fun h=>h.1,fun h=>⟨h,by have:=RlP.lt h;have:=HCN.out;omega⟩⟩);have HSR:=aH (pR wr.heap.size w2.heap.size ps.length ps (wr.alloc (.cells #[.map (some w2.heap.size)] 140)) (by simp) (cT wr [.map (some w2.heap.size)] _ 0 _ rfl) (HP.out.own.alloc _) (by omega));have HBR:Hid (Below w.heap.size w (wr.alloc (.cells #[.map (some w2.heap.size)] 140))):=aH ((HB2.out.trans (HP.out.low.mono HB2.out.size)).alloc ((HB2.out.trans (HP.out.low.mono HB2.out.size)).size) _)
   go_wp2_with (first
    | (go_at_call 87;refine (wE _ _).mono ?_;rintro e' w8 ⟨rfl,rfl⟩)
    | (go_at_call 86;refine HSR.out.mono ?_;rintro e' w9 ⟨A,c,s,rfl,hs,hl,hb9⟩;have HS9:=aH hs;have HL9:=aH hl;have HB9:=aH hb9;clear hs hl hb9))
   go_ret2
   exact ⟨A,c,s,rfl,HS9.out.iff HMA.out,HL9.out,HBR.out.trans (HB9.out.mono HBR.out.size)⟩
  case pos=>
  have hpl:p<ll.length:=by rw [HLL.out,HCN.out];exact hlt
  obtain ⟨g2,o2,rfl,hg2,hx⟩:=HSL.out.sl.at_ hpl;have hlp:=bF hpl;obtain ⟨l,hl⟩:∃l,ll[p]=l:=⟨_,rfl⟩;rw [hl] at hx hlp;obtain ⟨A3,c3,x0,hl1,hl2,hl3⟩:=hx;rw [Nat.mul_one] at x0;replace x0:=HP.out.kc.cell _ _ x0;have HSP:=aH (HSR.out p l hlp);have HL3:Hid (Slc 1 RInt w4 A3 c3 l):=aH ⟨hl3,hl1,hl2⟩;clear hl hlp hl3
  have hl20:l.length<=20:=by
   have:=HSP.out.len (n:=b.locals.length) (fun z hz=>by have:=lv_in HOK.out.chk hz;unfold LocIn at this;omega);have:=HOK.out.loc;omega
  have hM4:w2.heap.size<w4.heap.size:=hw4;go_wp2_with fail
  go_loopw [9,39] (fun v iv wr=>∃(k:Nat) (ms:List Int),iv = .int .i64 k/\k<=l.length/\ms.length<=k * 65536/\Hid (PrW w2 w4 w2.heap.size ps wr)/\Hid (wr.ownsRow w4.heap.size 3 1 v ms.length (ms.map (Value.int .i64)))/\Hid (∀y,y∈ms↔∃x∈l.take k,MnR b x y)) (fun _ iv _=>l.length - (intOf iv).toNat)
  case atStart=>exact ⟨0,[],rfl,by omega,by simp,HP,aH (World.ownsRow_nil _ _ _ _),aH (by simp)⟩
  case round=>
   clear HP HBX x0;obtain ⟨k,ms,rfl,hk,hmn,HP,HO,HMS⟩:=hrel;have hP4:=HP.out.kc.size;by_cases hkl:k<l.length
   case neg=>
    obtain rfl:k=l.length:=by omega
    rw [cB] at HMS;have HQ:=aH (xER HD.out (fun x=>HSP.out.2 x) HMS.out);obtain ⟨VA,vc,rfl,hs5,-⟩:=gR (R:=RInt) (fun _ _ _ _ _ h=>h) HO.out rfl;have HCLO:=aH (qJ b.outl b.regions.length r0 wr (HR.out.keep HP.out.low) HD.out.pairs (by omega) HD.out.nout ms VA vc hs5);have hs5l:=hs5.le;have hs5b:=hs5.big;clear hs5 HMS HO;go_wp2_with (go_at_call 85;refine HCLO.out.mono ?_;rintro e' w5 ⟨B5,d5,s,rfl,hs5,hsl5,-,hb5⟩;have HS5:=aH (hs5.iff HQ.out);have HSL5:=aH hsl5;have hle5:=hsl5.le;have hbg5:=hsl5.big;have HP5:=aH (HP.out.keep hb5);clear hs5 hsl5 hb5)
    have hs10:s.length<=10:=by
     have:=HS5.out.len (n:=b.regions.length) (fun z hz=>by have:=RlP.lt hz;omega);omega
    clear HP HCLO HQ;go_loopw [59] (fun jv wr=>∃(j:Nat) (qs:List (Int × Int)),jv = .int .i64 j/\j<=s.length/\qs.length<=ps.length+j/\Hid (PrW w2 w4 w2.heap.size qs wr)/\Hid (Kc w5 wr)/\Hid (∀z,z∈qs↔z∈ps\/∃r∈s.take j,z=(r,(p:Int)))) (fun jv _=>s.length - (intOf jv).toNat)
    case atStart=>exact ⟨0,ps,rfl,by omega,by omega,HP5,aH (Kc.refl _),aH (by simp)⟩
    case round=>
     clear HP5;obtain ⟨j,qs,rfl,hj,hqn,HP,HKC,HQS⟩:=hrel;by_cases hjl:j<s.length
     case neg=>
      obtain rfl:j=s.length:=by omega
      rw [cB] at HQS
      have HM2:Hid (∀z,z∈qs↔lvR b z/\z.2<((p+1:Nat):Int)):=aH (fun z=>by
       obtain ⟨z1,z2⟩:=z;rw [HQS.out,HM.out];unfold lvR;simp only;constructor
       ·rintro (⟨h1,h2⟩ | ⟨r,hr,e⟩)
        ·exact ⟨h1,by omega⟩
        ·injection e with e1 e2
         subst e1 e2;exact ⟨(HS5.out.2 _).1 hr,by omega⟩
       ·rintro ⟨h1,h2⟩;by_cases e:z2=(p:Int)
        ·subst e;exact .inr ⟨z1,(HS5.out.2 _).2 h1,rfl⟩
        ·exact .inl ⟨h1,by omega⟩)
      go_wp2_with fail
      go_roundw
      case rel=>exact ⟨p+1,qs,by go_num,by omega,by omega,HP,HM2⟩
      case measure=>simp [intOf];omega
     case pos=>
     obtain ⟨g6,o6,rfl,hg6,hy6⟩:=(HSL5.out.keepC RInt.keepsC HKC.out).sl.at_ hjl;have hyl:=bF hjl;have hyr:=RlP.lt ((HS5.out.2 _).1 (bO hjl));have HTK:=aH (bH hjl);obtain ⟨y,hyy⟩:∃y,s[j]=y:=⟨_,rfl⟩;rw [hyy] at hy6 hyr HTK;have y0:wr.cell? ⟨g6,o6+j,none⟩=some (.int .i64 y):=(by simpa [RInt] using hy6);have hwf1:(Lit.int .i64 y).wf=true:=by simp [Lit.wf,IntKind.min,IntKind.max,IntKind.signed,IntKind.bits];omega
     have hwf2:(Lit.int .i64 (p:Int)).wf=true:=by simp [Lit.wf,IntKind.min,IntKind.max,IntKind.signed,IntKind.bits];omega
     have HW1:=aH hwf1;have HW2:=aH hwf2;clear hy6 hyl hyy hwf1 hwf2;go_wp2_with (at_mapUpdate;refine nB _ rfl _ _ _ rfl w2.heap.size qs.length qs rfl HP.out.own (by unfold maxLen;omega) y (p:Int) rfl rfl HW1.out HW2.out ?_;intro w7 ho7 hg7;have HP7:=aH (HP.out.put (bA _) ho7 hg7);have HK7:=aH (HKC.out.trans (by obtain ⟨es,ck,h1⟩:=HP.out.own.obj;exact Kc.of_grown (fun cs e z g=>by rw [h1] at g;cases g) hg7));clear ho7 hg7)
     have HQ7:Hid (∀z,z∈(y,(p:Int)) :: qs↔z∈ps\/∃r∈s.take (j+1),z=(r,(p:Int))):=aH (fun z=>by
      rw [cM,HQS.out,HTK.out];constructor
      ·rintro (rfl | h | ⟨r,hr,e⟩)
       ·exact .inr ⟨y,by simp,rfl⟩
       ·exact .inl h
       ·exact .inr ⟨r,by simp [hr],e⟩
      ·rintro (h | ⟨r,hr,e⟩)
       ·exact .inr (.inl h)
       ·rcases List.mem_append.1 hr with hr | hr
        ·exact .inr (.inr ⟨r,hr,e⟩)
        ·rw [List.mem_singleton.1 hr] at e;exact .inl e)
     go_roundw
     case rel=>exact ⟨j+1,(y,(p:Int)) :: qs,by go_num,by omega,by simp;omega,HP7,HK7,HQ7⟩
     case measure=>simp [intOf];omega
   case pos=>
   have HBW:=aH (HB2.out.trans (HP.out.low.mono HB2.out.size));obtain ⟨g3,o3,rfl,hg3,hx3⟩:=(HL3.out.keepC RInt.keepsC HP.out.kc).sl.at_ hkl;have hxin:=lv_in HOK.out.chk ((HSP.out.2 _).1 (bO hkl));have HTK:=aH (bH hkl);obtain ⟨x,hxx⟩:∃x,l[k]=x:=⟨_,rfl⟩;rw [hxx] at hx3 hxin HTK;unfold LocIn at hxin;obtain ⟨xn,rfl⟩:=bI hxin.1;have hxn:xn<b.locals.length:=by omega
   have z0:wr.cell? ⟨g3,o3+k,none⟩=some (.int .i64 (xn:Int)):=by simpa [RInt] using hx3
   obtain ⟨g4,o4,hA4,hg4,hx4⟩:=(HH.out.loc.keep RLc.keeps HBW4.out).sl.at_ hxn;have hlc:b.locals[((xn:Nat):Int).toNat]?=some b.locals[xn]:=by simp [hxn]
   obtain ⟨lc,hlcc⟩:∃lc,b.locals[xn]=lc:=⟨_,rfl⟩;rw [hlcc] at hx4 hlc;obtain ⟨-,z6⟩:=hx4;have hlt2:=(HD.out.locs lc (List.mem_of_getElem? hlc)).2;obtain ⟨tn,htn⟩:=bI hlt2.1;rw [htn] at z6 hlt2;have z3:=cQ HBX4.out (HY.out 3 _ rfl);have z4:=cQ HBX4.out (HY.out 4 _ rfl);rw [hA4] at z4;have HKS:Hid (∀X,Kc w4 X->(fun X=>X.cell? ⟨w.heap.size,3,none⟩=some (.slice bh.A3 b.types.length bh.c3)/\X.cell? ⟨w.heap.size,4,none⟩=some (.slice (some ⟨g4,o4,none⟩) b.locals.length bh.c4)/\X.cell? ⟨g4,o4+xn * 2+1,none⟩=some (.int .i64 (tn:Int))) X):=aH (fun X hk=>⟨hk.cell _ _ z3,hk.cell _ _ z4,hk.cell _ _ z6⟩);clear z3 z4 z6;have hlT:=HH.out.typ.le;have hbT:=HH.out.typ.big;have hlL:=HH.out.loc.le;have hbL:=HH.out.loc.big;have HMR:=aH (vR b.types HD.out.tyok HD.out.ntyp tn (by omega) bh.A3 bh.c3 wr.drew (HH.out.typ.keep RTy.keeps HBW.out.drew))
   have HMN:Hid (∀s:List Int,Srt s (fun r=>∃x,Rt b.types (tn:Int) x/\PtR b.types x r)->s.length<=65535/\∀y,y∈s↔MnR b (xn:Int) y):=aH (fun s hs=>⟨by
    have h1:=iD s (b.types.map (·.reg)) hs.nodup (fun r hr=>by obtain ⟨x,_,u,hu,_,e⟩:=(hs.2 r).1 hr;exact List.mem_map.2 ⟨u,List.mem_of_getElem? hu,e⟩);have h2:=HD.out.ntyp
    simp at h1;omega,fun y=>(hs.2 y).trans ⟨fun ⟨z,h1,u,h2⟩=>⟨lc,hlc,z,u,by rw [htn];exact h1,h2⟩,fun ⟨l',h0,z,u,h1,h2⟩=>by
     rw [hlc] at h0;injection h0 with h0;subst h0
     rw [htn] at h1
     exact ⟨z,h1,u,h2⟩⟩⟩)
   clear hxin hx3 hxx hlc hlcc hlt2 htn hA4;go_wp2_with fail
   have hS:(fun X=>X.cell? ⟨w.heap.size,3,none⟩=some (.slice bh.A3 b.types.length bh.c3)/\X.cell? ⟨w.heap.size,4,none⟩=some (.slice (some ⟨g4,o4,none⟩) b.locals.length bh.c4)/\X.cell? ⟨g4,o4+xn * 2+1,none⟩=some (.int .i64 (tn:Int))) wr.drew:=HKS.out _ (HP.out.kc.trans (.of_below (aZ _ _).drew));refine cZ (S:=fun X=>X.cell? ⟨w.heap.size,3,none⟩=some (.slice bh.A3 b.types.length bh.c3)/\X.cell? ⟨w.heap.size,4,none⟩=some (.slice (some ⟨g4,o4,none⟩) b.locals.length bh.c4)/\X.cell? ⟨g4,o4+xn * 2+1,none⟩=some (.int .i64 (tn:Int))) [0,1,2,3,4,5,6,7,8,9,10,11] (by kernel_rfl) ?_;(iterate 9 (refine cY (v:=?_) ?_ hS ?_;rotate_left;(next=>(rintro X ⟨q1,q2,q3⟩;(try simp only [aK]);go_simp;rfl));simp only [aO]));(refine cX (fun K1 hK1=>?_);simp only [aO];rw [bD (by rfl)];go_simp);go_at_call 84
   refine HMR.out.mono ?_;rintro e' w6 ⟨B6,d6,s6,rfl,hs6,hsl6,hlo6,hb6⟩;have HS6:=aH (HMN.out s6 hs6);have hs6l:=HS6.out.1;have H6:=aH hsl6;have HB6:=aH ((aZ wr.heap.size wr).drew.trans hb6);have HP6:=aH (HP.out.keep HB6.out);have HO6:=aH (dE HO.out HB6.out);have hP6:=HP6.out.kc.size;have HMS2:=aH (xCS HMS.out HS6.out.2 HTK.out);have hS6:=HKS.out _ HP6.out.kc;clear hs6 hsl6 hlo6 hb6 hS;refine hK1.out _ _ (fun _=>hS6) ?_;(refine cX (fun K1 hK1=>?_);simp only [aO];rw [bD (by rfl)]);rcases B6 with _ | a6
   ·obtain rfl:s6=[]:=yV H6.out;rw [List.append_nil] at HMS2;refine pK (.tmp 43) (.tmp 52) 48 rfl w4.heap.size 3 i0 1 Tryz.underlying48 hi0 _ ms.length _ rfl HO6.out d6 rfl ?_;refine hK1.out _ _ (fun _=>hS6) ?_;have hS:=hS6;((refine cY (v:=?_) ?_ hS ?_;rotate_left;(next=>(rintro X -;(try simp only [aK]);go_simp;rfl));simp only [aO]))
    refine dI ?_;clear hS hS6;go_wp2_with fail
    go_roundw
    case rel=>exact ⟨k+1,ms,by go_num,by omega,by rw [Nat.succ_mul];exact cA hmn (Nat.le_add_right _ _),HP6,HO6,HMS2⟩
    case measure=>simp [intOf];omega
   ·refine eS (.tmp 43) (.tmp 52) 48 rfl w4.heap.size 3 i0 (.int .i64 0) 1 8 Tryz.underlying48 hi0 hz0 hz1 hz2 rfl (by decide) _ ms.length _ rfl HO6.out a6 s6.length d6 (s6.map (Value.int .i64)) rfl (by simp) (uK H6.out) (fun u hu=>by rw [cN] at hu;obtain ⟨z,_,rfl⟩:=hu;rfl) (by unfold maxLen;omega) (by omega) (by omega) ?_;intro v7 w7 hown7 hgrow7 _;have HP7:=aH (HP6.out.grow (Nat.le_of_lt hM4) hM4 HO6.out hgrow7);have HO7:Hid (w7.ownsRow w4.heap.size 3 1 v7 (ms ++ s6).length ((ms ++ s6).map (Value.int .i64))):=aH (by rw [bE,bV];exact hown7);have hS:=HKS.out _ HP7.out.kc;refine hK1.out _ _ (fun _=>hS) ?_;((refine cY (v:=?_) ?_ hS ?_;rotate_left;(next=>(rintro X -;(try simp only [aK]);go_simp;rfl));simp only [aO]))
    refine dI ?_;clear hS hS6 hown7 hgrow7;go_wp2_with fail
    go_roundw
    case rel=>exact ⟨k+1,ms ++ s6,by go_num,by omega,by rw [bE];omega,HP7,HO7,HMS2⟩
    case measure=>simp [intOf];omega
end
section
open Go Go.RowKit
attribute [local irreducible] Calls
theorem sB (d:Nat) (x y:Int × Int) (w:World):(Op.equalIn (d+1+1) 42 (.agg #[.int .i64 x.1,.int .i64 x.2]) (.agg #[.int .i64 y.1,.int .i64 y.2])).run Tryz.prog w = .ok (decide (x=y)) w:=by
 have u3:=Tryz.underlying3;have a3:=Tryz.isAgg3;have z3:=Tryz.sizeOf3;have u:=Tryz.underlying42;obtain ⟨x1,x2⟩:=x;obtain ⟨a,b⟩:=y;have e1:=fun p q=>run_equalIn_int (P:=Tryz.prog) w d 3 .i64 .i64 p q u3
 rw [Op.equalIn];simp only [Sem.run_bind,run_underlying u,Result.andThen_ok,z3,Std.Legacy.Range.forIn_eq_forIn_range',Std.Legacy.Range.size];go_simp;generalize Op.equalIn (d+1) 3=f at *;simp [List.range',go_sem,e1];by_cases h1:x1=a <;> by_cases h2:x2=b <;> simp [h1,h2]
theorem neqPr (x y:Int × Int) (w:World):Sem.run Tryz.prog (binOp .neq 42 (.agg #[.int .i64 x.1,.int .i64 x.2]) (.agg #[.int .i64 y.1,.int .i64 y.2])) w = .ok (.bool (!decide (x=y))) w:=by
 rw [run_neq_struct,show (10000:Nat)=9998+1+1 from rfl,sB];simp
theorem eqlPr (x y:Int × Int) (w:World):Sem.run Tryz.prog (binOp .eql 42 (.agg #[.int .i64 x.1,.int .i64 x.2]) (.agg #[.int .i64 y.1,.int .i64 y.2])) w = .ok (.bool (decide (x=y))) w:=by
 rw [run_eql_struct,show (10000:Nat)=9998+1+1 from rfl,sB];simp
end
section
open Go Go.RowKit
attribute [local irreducible] Calls
theorem tX {α : Type} {xs ys:List α} {i:Nat} (h:xs.take i=ys.take i) (h1:i<xs.length) (h2:i<ys.length) (e:xs[i]=ys[i]):xs.take (i+1)=ys.take (i+1):=by
 rw [bH h1,bH h2,h,e]
theorem qU {α : Type} {xs ys:List α} {n:Nat} (h:xs.take n=ys.take n) (h1:xs.length<=n) (h2:ys.length<=n):xs=ys:=by
 rwa [List.take_of_length_le h1,List.take_of_length_le h2] at h
theorem jY (xs ys:List (Int × Int)) (A B:Option Addr) (c d:Nat) (w:World) (hs:Slc 2 RPr w A c xs) (ht:Slc 2 RPr w B d ys):
 Calls Tryz.prog 21 #[.slice A xs.length c,.slice B ys.length d] w fun e' w'=>e' = .returned (.bool (decide (xs=ys)))/\Below w.heap.size w w':=by
 have hle:=hs.le;have hbg:=hs.big;have hle2:=ht.le;have hbg2:=ht.big;have HS:=aH hs;have HT:=aH ht;clear hs ht;obtain ⟨R,hR⟩:∃R,decide (xs=ys)=R:=⟨_,rfl⟩;rw [hR];have HR:=aH hR;clear hR;by_cases hl:xs.length=ys.length
 case neg=>
  have HF:Hid (R=false):=aH (by rw [<- HR.out];simp only [decide_eq_false_iff_not];intro h;exact hl (by rw [h]));have e1:((xs.length:Int) != (ys.length:Int))=true:=by simp;omega
  clear HR;go_enter Tryz.func21,Tryz.ntmps21
  go_wp2_with fail
  go_ret;exact ⟨by rw [HF.out];rfl,aZ _ _⟩
 have e1:((xs.length:Int) != (ys.length:Int))=false:=by simp;omega
 go_enter Tryz.func21,Tryz.ntmps21
 go_wp2_with fail
 go_loopw [13] (fun v wr=>∃i:Nat,i<=xs.length/\v = .int .i64 i/\Hid (xs.take i=ys.take i)/\Hid (Below w.heap.size w wr)) (fun v _=>xs.length - (intOf v).toNat)
 case atStart=>exact ⟨0,by omega,rfl,aH rfl,aH (aZ _ _)⟩
 case round=>
  obtain ⟨i,hi,rfl,HE,HB⟩:=hrel;by_cases hlt:i<xs.length
  ·have hlt2:i<ys.length:=by omega
   obtain ⟨b,o,rfl,hb,y⟩:=(HS.out.keep RPr.keeps HB.out).sl.at_ hlt;obtain ⟨b2,o2,rfl,hb2,z⟩:=(HT.out.keep RPr.keeps HB.out).sl.at_ hlt2;by_cases hxy:xs[i]=ys[i]
   ·have HN:=aH (tX HE.out hlt hlt2 hxy);rw [<- hxy] at z;generalize xs[i]=x at *;have p0:wr.cell? ⟨b,o+i * 2,none⟩=some (.int .i64 x.1):=y.1;have p1:wr.cell? ⟨b,o+i * 2+1,none⟩=some (.int .i64 x.2):=y.2;have q0:wr.cell? ⟨b2,o2+i * 2,none⟩=some (.int .i64 x.1):=z.1;have q1:wr.cell? ⟨b2,o2+i * 2+1,none⟩=some (.int .i64 x.2):=z.2;have hne:∀W:World,Sem.run Tryz.prog (binOp .neq 42 (.agg #[.int .i64 x.1,.int .i64 x.2]) (.agg #[.int .i64 x.1,.int .i64 x.2])) W = .ok (.bool false) W:=fun W=>by rw [neqPr x x,decide_eq_true rfl];rfl
    clear y z hxy HE;go_wp2_with fail
    go_quiet (fail)
    go_wp2_with fail
    go_roundw
    case rel=>exact ⟨i+1,by omega,by go_num,HN,aH (aI HB.out _)⟩
    case measure=>simp [intOf];omega
   ·have HF:Hid (R=false):=aH (by rw [<- HR.out];simp only [decide_eq_false_iff_not];intro h;subst h;exact hxy rfl);generalize xs[i]=x at *;generalize ys[i]=x2 at *;have p0:wr.cell? ⟨b,o+i * 2,none⟩=some (.int .i64 x.1):=y.1;have p1:wr.cell? ⟨b,o+i * 2+1,none⟩=some (.int .i64 x.2):=y.2;have q0:wr.cell? ⟨b2,o2+i * 2,none⟩=some (.int .i64 x2.1):=z.1;have q1:wr.cell? ⟨b2,o2+i * 2+1,none⟩=some (.int .i64 x2.2):=z.2
    have hne:∀W:World,Sem.run Tryz.prog (binOp .neq 42 (.agg #[.int .i64 x.1,.int .i64 x.2]) (.agg #[.int .i64 x2.1,.int .i64 x2.2])) W = .ok (.bool true) W:=fun W=>by
     rw [neqPr x x2,decide_eq_false hxy];rfl
    clear y z HE HR;go_wp2_with fail
    go_quiet (fail)
    go_wp2_with fail
    go_ret;exact ⟨by rw [HF.out];rfl,by first | exact HB.out | exact aI HB.out _⟩
  ·have HF:Hid (R=true):=aH (by rw [<- HR.out];simp only [decide_eq_true_eq];exact qU HE.out (by omega) (by omega));go_wp2_with fail
   go_ret;exact ⟨by rw [HF.out];rfl,HB.out⟩
end
section
open Go Go.RowKit
attribute [local irreducible] Calls
def fxTy (mu:Bool):List Value:=[.int .i64 2,.bool false,.int .i64 0,.int .i64 0,.slice none 0 0,.int .i64 3,.bool mu,.int .i64 0,.int .i64 0,.slice none 0 0]
def fxLoc:List Value:=[.string ⟨#[120]⟩,.int .i64 0,.string ⟨#[114]⟩,.int .i64 1]
def fxBst (mu:Bool):List Value:=[.int .i64 0,.int .i64 1,.slice none 0 0,.int .i64 1,.int .i64 0,.int .i64 0,.bool mu,.int .i64 0,.slice none 0 0,.slice none 0 0,.int .i64 0]
def fxBlk (a:Nat) (n c:Nat):List Value:=[.slice (some ⟨a,0,none⟩) n c,.int .i64 2,.slice none 0 0,.slice none 0 0,.int .i64 0,.slice none 0 0,.string ⟨#[]⟩]
def fxBd (a1 a2 a3 a5:Nat):List Value:=[.string ⟨#[102]⟩,.slice (some ⟨a1,0,none⟩) 1 1,.slice none 0 0,.slice (some ⟨a2,0,none⟩) 2 2,.slice (some ⟨a3,0,none⟩) 2 2,.int .i64 0,.slice (some ⟨a5,0,none⟩) 1 1]
def fxH (a1 a2 a3 a5:Nat):BH:=⟨some ⟨a1,0,none⟩,1,none,0,some ⟨a2,0,none⟩,2,some ⟨a3,0,none⟩,2,some ⟨a5,0,none⟩,1⟩
theorem fx_at {W:World} {mu:Bool} {ss:List Stm} {a1 a2 a3 a4 a5 n:Nat} {T1:TypeId} (h1:W.heap[a1]?=some (.cells #[.string ⟨#[97]⟩] T1 (0,0))) (h2:W.heap[a2]?=some (.cells (fxTy mu).toArray 104 (0,0))) (h3:W.heap[a3]?=some (.cells fxLoc.toArray 106 (0,0)))
 (h4:Slc 11 RSt W (some ⟨a4,0,none⟩) n ss) (h5:W.heap[a5]?=some (.cells (fxBlk a4 ss.length n).toArray 116 (0,0))):BdAt W (fxB mu ss) (fxH a1 a2 a3 a5):=by
 have l1:=(Array.getElem?_eq_some_iff.1 h1).1;have l2:=(Array.getElem?_eq_some_iff.1 h2).1;have l3:=(Array.getElem?_eq_some_iff.1 h3).1;have l5:=(Array.getElem?_eq_some_iff.1 h5).1;have c1:=fun i v h=>cR (l:=[.string ⟨#[97]⟩]) h1 i v h
 have c2:=fun i v h=>cR h2 i v h
 have c3:=fun i v h=>cR h3 i v h
 have c5:=fun i v h=>cR h5 i v h
 refine ⟨⟨fun _=>⟨a1,0,rfl,l1,fun i x hi=>?_⟩,bA _,Nat.le_of_ble_eq_true rfl⟩,⟨Sl.nil,bA _,Nat.le_of_ble_eq_true rfl⟩,⟨fun _=>⟨a2,0,rfl,l2,fun i x hi=>?_⟩,bA _,Nat.le_of_ble_eq_true rfl⟩,⟨fun _=>⟨a3,0,rfl,l3,fun i x hi=>?_⟩,bA _,Nat.le_of_ble_eq_true rfl⟩,⟨fun _=>⟨a5,0,rfl,l5,fun i x hi=>?_⟩,bA _,Nat.le_of_ble_eq_true rfl⟩⟩
 ·have hi0:i=0:=by
   have:i<1:=(List.getElem?_eq_some_iff.1 hi).1;omega
  subst hi0;obtain rfl:=Option.some.inj hi;exact c1 0 _ rfl
 ·have hi0:i=0\/i=1:=by
   have:i<2:=(List.getElem?_eq_some_iff.1 hi).1;omega
  rcases hi0 with rfl | rfl
  ·obtain rfl:=Option.some.inj hi;exact ⟨c2 0 _ rfl,c2 1 _ rfl,c2 2 _ rfl,c2 3 _ rfl,rsl0 (c2 4 _ rfl)⟩
  ·obtain rfl:=Option.some.inj hi;exact ⟨c2 5 _ rfl,c2 6 _ rfl,c2 7 _ rfl,c2 8 _ rfl,rsl0 (c2 9 _ rfl)⟩
 ·have hi0:i=0\/i=1:=by
   have:i<2:=(List.getElem?_eq_some_iff.1 hi).1;omega
  rcases hi0 with rfl | rfl
  ·obtain rfl:=Option.some.inj hi;exact ⟨c3 0 _ rfl,c3 1 _ rfl⟩
  ·obtain rfl:=Option.some.inj hi;exact ⟨c3 2 _ rfl,c3 3 _ rfl⟩
 ·have hi0:i=0:=by
   have:i<1:=(List.getElem?_eq_some_iff.1 hi).1;omega
  subst hi0;obtain rfl:=Option.some.inj hi;exact ⟨⟨some ⟨a4,0,none⟩,n,c5 0 _ rfl,h4.le,h4.big,h4.sl⟩,c5 1 _ rfl,rsl0 (c5 2 _ rfl),rsl0 (c5 3 _ rfl),⟨c5 4 _ rfl,rsl0 (c5 5 _ rfl)⟩,c5 6 _ rfl⟩
theorem xFA {W:World} {B a o:Nat} {mu:Bool} (h:∀i v,(fxBst mu)[i]?=some v->W.cell? ⟨a,o+i,none⟩=some v):RSt W B a o (fxb mu):=
 ⟨h 0 _ rfl,⟨h 1 _ rfl,rsl0 (h 2 _ rfl)⟩,⟨h 3 _ rfl,h 4 _ rfl,h 5 _ rfl,h 6 _ rfl,⟨h 7 _ rfl,rsl0 (h 8 _ rfl)⟩,rsl0 (h 9 _ rfl)⟩,h 10 _ rfl⟩
theorem xEC (w:World) (o0 o1 o2 o3 o4 o5:Obj) {W:World} (hW:(((((w.alloc o0).alloc o1).alloc o2).alloc o3).alloc o4).alloc o5=W):
 W.heap[w.heap.size]?=some o0/\W.heap[w.heap.size+1]?=some o1/\W.heap[w.heap.size+1+1]?=some o2/\W.heap[w.heap.size+1+1+1]?=some o3/\W.heap[w.heap.size+1+1+1+1]?=some o4/\W.heap[w.heap.size+1+1+1+1+1]?=some o5/\Below w.heap.size w W:=by
 have nw:∀(x:World) (o:Obj),(x.alloc o).heap[x.heap.size]?=some o:=fun x o=>World.alloc_heap_new x o
 refine ⟨?_,?_,?_,?_,?_,?_,by rw [<- hW];exact aJ⟩ <;> rw [<- hW]
 ·repeat rw [Below.heap_alloc _ _ _ (by simp only [bK];omega)]
  exact nw w o0
 ·repeat rw [Below.heap_alloc _ _ _ (by simp only [bK];omega)]
  have:=nw (w.alloc o0) o1;rwa [bK] at this
 ·repeat rw [Below.heap_alloc _ _ _ (by simp only [bK];omega)]
  have:=nw ((w.alloc o0).alloc o1) o2;rwa [bK,bK] at this
 ·repeat rw [Below.heap_alloc _ _ _ (by simp only [bK];omega)]
  have:=nw (((w.alloc o0).alloc o1).alloc o2) o3;rwa [bK,bK,bK] at this
 ·repeat rw [Below.heap_alloc _ _ _ (by simp only [bK];omega)]
  have:=nw ((((w.alloc o0).alloc o1).alloc o2).alloc o3) o4;rwa [bK,bK,bK,bK] at this
 ·have:=nw (((((w.alloc o0).alloc o1).alloc o2).alloc o3).alloc o4) o5;rwa [bK,bK,bK,bK,bK] at this
theorem iW (mu:Bool) (w:World):
 Calls Tryz.prog 32 #[.bool mu] w fun e' w'=>∃bh,e' = .returned (.agg (bdC (fxB mu [fxb mu]) bh).toArray)/\BdAt w' (fxB mu [fxb mu]) bh/\Below w.heap.size w w':=by
 go_enter Tryz.func32,Tryz.ntmps32
 go_wp2_with fail
 obtain ⟨W9,hW9⟩:∃W9,(((((w.alloc (.cells (fxBd (w.heap.size+1) (w.heap.size+1+1) (w.heap.size+1+1+1) (w.heap.size+1+1+1+1+1)).toArray 59)).alloc (.cells #[.string ⟨#[97]⟩] 9)).alloc (.cells (fxTy mu).toArray 104)).alloc (.cells fxLoc.toArray 106)).alloc (.cells (fxBst mu).toArray 111)).alloc (.cells (fxBlk (w.heap.size+1+1+1+1) 1 1).toArray 116)=W9:=⟨_,rfl⟩;have hs:=xEC w _ _ _ _ _ _ hW9;unfold fxBd fxTy fxLoc fxBst fxBlk at hW9;rw [hW9];clear hW9;obtain ⟨h0,h1,h2,h3,h4,h5,hb⟩:=hs;have u:=fun i v h=>cR h0 i v h
 unfold fxBd at u;obtain ⟨u0,u1,u2,u3,u4,u5,u6⟩:=aU u
 have hbd:BdAt W9 (fxB mu [fxb mu]) (fxH (w.heap.size+1) (w.heap.size+1+1) (w.heap.size+1+1+1) (w.heap.size+1+1+1+1+1)):=fx_at (ss:=[fxb mu]) (n:=1) h1 h2 h3 ⟨fun _=>⟨w.heap.size+1+1+1+1,0,rfl,(Array.getElem?_eq_some_iff.1 h4).1,fun i x hi=>by
  have hi0:i=0:=by
   have:i<1:=(List.getElem?_eq_some_iff.1 hi).1;omega
  subst hi0;obtain rfl:=Option.some.inj hi
  exact xFA (fun i v h=>by simpa using cR h4 i v h)⟩,bA _,Nat.le_of_ble_eq_true rfl⟩ h5
 clear h0 h1 h2 h3 h4 h5 u;exact bodyPost_ret (v:= .agg (bdC (fxB mu [fxb mu]) (fxH (w.heap.size+1) (w.heap.size+1+1) (w.heap.size+1+1+1) (w.heap.size+1+1+1+1+1))).toArray) (by simp [results,Tryz.results32,go_sem,u0,u1,u2,u3,u4,u5,u6,bdC,fxB,fxH,fxT]) rfl ⟨_,rfl,hbd,hb⟩
end
end Go.Proofs.YtkaigkfbkpinlaaGreatDoor
