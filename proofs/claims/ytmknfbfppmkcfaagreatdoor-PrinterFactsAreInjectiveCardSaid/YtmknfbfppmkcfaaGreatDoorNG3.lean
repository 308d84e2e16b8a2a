/-
  PrinterFactsAreInjective: the texts that this claim has beyond those of PrinterPlaces. (part 3)
-/
import Derived.Test.YtmknfbfppmkcfaaGreatDoorNG2
import Derived.Lib.Hide
import Derived.Below
import Derived.WalkSmall
import Derived.Laws.World
import Derived.Test.YtmknfbfppmkcfaaGreatDoorProg
import Derived.WalkKit
import Derived.WalkSpells
import Derived.WalkLawsBesides
import Derived.Deep.RegionHeld3
import Derived.Deep.DeepFit
import Derived.Deep.QuietTactic
import Derived.BigQuiet
import Derived.OwnWalk
import Derived.Maps.AppendAt
import Derived.Deep.DeepCutAuto
import Derived.StillTailTactics
import Derived.Lib.ItoaNum
import Derived.Lib.Join
import Derived.RangeFuncNested
import Derived.RangeFuncBound
import Derived.RangeFuncCalls
import Derived.RangeFuncLeaves
import Derived.OwnWalkIn
import Derived.TacticsInMore
import Derived.LoopNIn
import Derived.LoopIn
import Derived.Lib.ItoaLen
import Derived.Laws.IdiomStrings
import Derived.Shelf.Abstract
import Derived.OrdersHeld
import Derived.Deep.RegionHeld
import Derived.Test.YtmknfbfppmkcfaaGreatDoorSg
import Derived.Maps.OwnSet
import Derived.Maps.OwnOps
import Derived.StringKeys
import Derived.Deep.MidRow
import Derived.Deep.LoopGhost
import Derived.WideKeyPair
import Derived.WideKeyArr
import Derived.Test.YtmknfbfppmkcfaaGreatDoorSj
import Derived.Lib.AppendIntMem
import Derived.Test.YtmknfbfppmkcfaaGreatDoorSh
import Derived.RangeFuncBox
import Derived.Lib.AppendStr
import Derived.Lib.Builder
import Derived.WalkMore
import Derived.ChangeKeysEq
import Derived.Deep.CutBlock
import Derived.Test.YtmknfbfppmkcfaaGreatDoorRows
import Derived.ProofKit
import Derived.Deep.Slices
import Derived.Deep.Fields
import Derived.Lib.SmallJoins
import Derived.OpenShut
import Derived.LaidMore
import Derived.Stop.Joined
import Derived.Stop.LaidErr
import Derived.Lay
import Derived.SevenTiedAt
import Derived.Lib.LaidTab
import Derived.Test.YtmknfbfppmkcfaaGreatDoorTie
import Derived.Test.YtmknfbfppmkcfaaGreatDoorCards
import Derived.JoinedOf
import Derived.SizedLaws
namespace Go.Proofs.YtmknfbfppmkcfaaGreatDoor
set_option maxRecDepth 100000
set_option maxHeartbeats 16000000
section
open Go Go.RowKit
theorem xCU {cl:UInt8->Bool}:∀{x y r s:List UInt8},x.all cl=true->y.all cl=true->Stop cl r->Stop cl s->x ++ r=y ++ s->x=y/\r=s
 | [],[],_,_,_,_,_,_,h=>⟨rfl,h⟩
 | [],b :: y,r,s,_,hy,hr,_,h=>by
   simp only [cB,bQ] at hy;have:=hr b (y ++ s) (by simpa using h);rw [hy.1] at this;cases this
 | a :: x,[],r,s,hx,_,_,hs,h=>by
   simp only [cB,bQ] at hx;have:=hs a (x ++ r) (by simpa using h.symm);rw [hx.1] at this;cases this
 | a :: x,b :: y,r,s,hx,hy,hr,hs,h=>by
   simp only [cB,bQ] at hx hy;simp only [List.cons_append,List.cons.injEq] at h;obtain ⟨rfl,h⟩:=h;obtain ⟨rfl,e⟩:=xCU hx.2 hy.2 hr hs h;exact ⟨rfl,e⟩
theorem xGH (u:Nat):(Lib.decDigits u).all isDig=true:=by
 induction u using Nat.strongRecOn with
 | _ u ih=>
   have hd:∀k,k<10->isDig (UInt8.ofNat (48+k))=true:=fun k hk=>by
    unfold isDig;rw [decide_eq_true_eq,UInt8.toNat_ofNat'];omega
   by_cases h:u<10
   ·rw [oO h,cB,hd u h];rfl
   ·rw [zV h,List.all_append,ih (u / 10) (by omega),cB,hd (u % 10) (by omega)];rfl
def valD (l:List UInt8):Nat:=l.foldl (fun a c=>a * 10+(c.toNat - 48)) 0
theorem xFP (u:Nat):valD (Lib.decDigits u)=u:=by
 have hd:∀k,k<10->(UInt8.ofNat (48+k)).toNat - 48=k:=fun k hk=>by rw [UInt8.toNat_ofNat'];omega
 induction u using Nat.strongRecOn with
 | _ u ih=>
   by_cases h:u<10
   ·rw [oO h];simp only [valD,List.foldl_cons,List.foldl_nil,hd u h];omega
   ·rw [zV h];have:=ih (u / 10) (by omega);unfold valD at this ⊢;rw [List.foldl_append,this];simp only [List.foldl_cons,List.foldl_nil,hd (u % 10) (by omega)];omega
theorem dd_ne (u:Nat):∃c t,Lib.decDigits u=c :: t/\isDig c=true:=by
 have h:=xGH u;cases e:Lib.decDigits u with
 | nil=>
   exfalso;by_cases hu:u<10
   ·rw [oO hu] at e;cases e
   ·rw [zV hu] at e;simp at e
 | cons c t=>rw [e] at h;simp only [cB,bQ] at h;exact ⟨c,t,rfl,h.1⟩
theorem xCI {n:Int} (h:n<0):Lib.itoa n=45 :: Lib.decDigits n.natAbs:=by unfold Lib.itoa;rw [bA h]
theorem xCD {n m:Int} {r s:List UInt8} (hr:Stop isDig r) (hs:Stop isDig s) (h:Lib.itoa n ++ r=Lib.itoa m ++ s):n=m/\r=s:=by
 have key:∀u v:Nat,Lib.decDigits u ++ r=Lib.decDigits v ++ s->u=v/\r=s:=fun u v e=>by
  obtain ⟨e1,e2⟩:=xCU (xGH u) (xGH v) hr hs e;exact ⟨by rw [<- xFP u,e1,xFP],e2⟩
 rcases Int.lt_or_le n 0 with hn | hn <;> rcases Int.lt_or_le m 0 with hm | hm
 ·rw [xCI hn,xCI hm] at h;simp only [List.cons_append,List.cons.injEq,true_and] at h;obtain ⟨a,b⟩:=key _ _ h;exact ⟨by omega,b⟩
 ·rw [xCI hn,vK hm] at h;obtain ⟨c,t,e,hc⟩:=dd_ne m.toNat;rw [e] at h;simp only [List.cons_append,List.cons.injEq] at h;rw [<- h.1] at hc;exact absurd hc (by decide)
 ·rw [vK hn,xCI hm] at h;obtain ⟨c,t,e,hc⟩:=dd_ne n.toNat;rw [e] at h;simp only [List.cons_append,List.cons.injEq] at h;rw [h.1] at hc;exact absurd hc (by decide)
 ·rw [vK hn,vK hm] at h;obtain ⟨a,b⟩:=key _ _ h;exact ⟨by omega,b⟩
def idc (c:UInt8):Bool:=isLet c || isDig c
theorem xDT {b:ByteArray} (h:isIdent b=true):(bl b).all idc=true:=by
 unfold isIdent at h;unfold bl;cases e:b.data.toList with
 | nil=>rfl
 | cons c r=>
   rw [e] at h;simp only [sM,bQ] at h;simp only [cB,bQ,idc,h.1.1,Bool.true_or,true_and];exact h.1.2
theorem xIL {a b:ByteArray} (h:bl a=bl b):a=b:=by rw [jG a,jG b,h]
theorem xEQ {a b:ByteArray} {r s:List UInt8} (ha:isIdent a=true) (hb:isIdent b=true) (hr:Stop idc r) (hs:Stop idc s) (h:bl a ++ r=bl b ++ s):a=b/\r=s:=by
 obtain ⟨e1,e2⟩:=xCU (xDT ha) (xDT hb) hr hs h;exact ⟨xIL e1,e2⟩
theorem xBZ {α : Type} {f : α -> List UInt8} {ok : α -> Prop} (hc:∀x y r s,ok x->ok y->f x ++ r=f y ++ s->x=y/\r=s):
 ∀(xs ys:List α) (r s:List UInt8),(∀x∈xs,ok x)->(∀y∈ys,ok y)->(∀x t,ok x->f x ++ t≠r)->(∀x t,ok x->f x ++ t≠s)->
  xs.flatMap f ++ r=ys.flatMap f ++ s->xs=ys/\r=s
 | [],[],_,_,_,_,_,_,h=>⟨rfl,h⟩
 | [],y :: ys,r,s,_,hy,h1,_,h=>by
   rw [List.flatMap_cons,bM] at h;exact absurd (by simpa using h.symm) (h1 y _ (hy y (by simp)))
 | x :: xs,[],r,s,hx,_,_,h2,h=>by
   rw [List.flatMap_cons,bM] at h;exact absurd (by simpa using h) (h2 x _ (hx x (by simp)))
 | x :: xs,y :: ys,r,s,hx,hy,h1,h2,h=>by
   rw [List.flatMap_cons,List.flatMap_cons,bM,bM] at h;obtain ⟨rfl,h3⟩:=hc x y _ _ (hx x (by simp)) (hy y (by simp)) h;obtain ⟨rfl,h4⟩:=xBZ hc xs ys r s (fun z hz=>hx z (by simp [hz])) (fun z hz=>hy z (by simp [hz])) h1 h2 h3;exact ⟨rfl,h4⟩
def inc (c:UInt8):Bool:=idc c || decide (c=46)
abbrev StI (r:List UInt8):Prop:=Stop inc r
theorem StI.idc {r:List UInt8} (h:StI r):Stop idc r:=fun c t e=>by
 have:=h c t e;simp only [inc,Bool.or_eq_false_iff] at this;exact this.1
theorem StI.dig {r:List UInt8} (h:StI r):Stop isDig r:=fun c t e=>by
 have:=h.idc c t e;simp only [Go.Proofs.YtmknfbfppmkcfaaGreatDoor.idc,Bool.or_eq_false_iff] at this;exact this.2
theorem StI.dot {r:List UInt8} (h:StI r) (t:List UInt8):r≠46 :: t:=fun e=>by
 have:=h 46 t e;exact absurd this (by decide)
theorem sti {c:UInt8} {t:List UInt8} (h:inc c=false):StI (c :: t):=Stop.cons h t
theorem xHF {rs:List ByteArray} (H:NmRs rs) {i j:Int} {r s:List UInt8} (hi:okI rs.length i) (hj:okI rs.length j) (hr:StI r) (hs:StI s) (h:rgP rs i ++ r=rgP rs j ++ s):i=j/\r=s:=by
 have ei:=bD (l:=rs) (i:=i.toNat) (by have:=hi.1;have:=hi.2;omega);have ej:=bD (l:=rs) (i:=j.toNat) (by have:=hj.1;have:=hj.2;omega);unfold rgP at h;rw [ei,ej] at h;simp only [Option.map_some,Option.getD_some] at h;obtain ⟨e1,e2⟩:=xEQ (H.id _ _ ei) (H.id _ _ ej) hr.idc hs.idc h;have:=H.inj _ _ _ _ ei ej e1;have:=hi.1;have:=hj.1;exact ⟨by omega,e2⟩
theorem xII {x y:Pj} {r s:List UInt8} (hx:okJ x) (hy:okJ y) (hr:Stop isDig r) (hs:Stop isDig s) (h:pjP x ++ r=pjP y ++ s):x=y/\r=s:=by
 obtain ⟨k,f⟩:=x;obtain ⟨k',f'⟩:=y
 have nostar:∀(n:Int) (t u:List UInt8),0<=n->Lib.itoa n ++ t≠42 :: u:=fun n t u hn e=>by
  obtain ⟨c,t',e',hc⟩:=dd_ne n.toNat;rw [vK hn,e'] at e;simp only [List.cons_append,List.cons.injEq] at e;rw [e.1] at hc;exact absurd hc (by decide)
 simp only [okJ] at hx hy;rcases hx with ⟨rfl,rfl⟩ | ⟨rfl,hx⟩ <;> rcases hy with ⟨rfl,rfl⟩ | ⟨rfl,hy⟩ <;> simp only [pjP,if_true,if_false,List.cons_append,List.nil_append,List.cons.injEq,true_and,Int.one_ne_zero] at h
 ·exact ⟨rfl,h⟩
 ·exact absurd h.symm (nostar _ _ _ hy)
 ·exact absurd h (nostar _ _ _ hx)
 ·obtain ⟨rfl,e⟩:=xCD hr hs h;exact ⟨rfl,e⟩
theorem xEN (x:Pj):∃t,pjP x=46 :: t:=by unfold pjP;split <;> exact ⟨_,rfl⟩
theorem xGK:∀{xs ys:List Pj} {r s:List UInt8},(∀x∈xs,okJ x)->(∀y∈ys,okJ y)->StI r->StI s->pjsP xs ++ r=pjsP ys ++ s->xs=ys/\r=s
 | [],[],_,_,_,_,_,_,h=>⟨rfl,h⟩
 | [],y :: ys,r,s,_,_,hr,_,h=>by
   obtain ⟨t,e⟩:=xEN y;simp only [pjsP,List.flatMap_cons,List.flatMap_nil,List.nil_append,e,List.cons_append] at h;exact absurd h (hr.dot _)
 | x :: xs,[],r,s,_,_,_,hs,h=>by
   obtain ⟨t,e⟩:=xEN x;simp only [pjsP,List.flatMap_cons,List.flatMap_nil,List.nil_append,e,List.cons_append] at h;exact absurd h.symm (hs.dot _)
 | x :: xs,y :: ys,r,s,hx,hy,hr,hs,h=>by
   have st_of:∀(l:List Pj) (q:List UInt8),StI q->Stop isDig (pjsP l ++ q):=fun l q hq=>by
    cases l with
    | nil=>simpa [pjsP] using hq.dig
    | cons z l=>
      obtain ⟨t,e⟩:=xEN z;simp only [pjsP,List.flatMap_cons,e,List.cons_append];exact Stop.cons (by decide) _
   simp only [pjsP,List.flatMap_cons,bM] at h;obtain ⟨rfl,h2⟩:=xII (hx x (by simp)) (hy y (by simp)) (st_of xs r hr) (st_of ys s hs) h;obtain ⟨rfl,h3⟩:=xGK (fun z hz=>hx z (by simp [hz])) (fun z hz=>hy z (by simp [hz])) hr hs h2;exact ⟨rfl,h3⟩
theorem xGJ {ls:List Lc} (H:NmLs ls) {p q:Plc} {r s:List UInt8} (hp:OkPl ls p) (hq:OkPl ls q) (hr:StI r) (hs:StI s) (h:placeP ls p ++ r=placeP ls q ++ s):p=q/\r=s:=by
 obtain ⟨i,ps⟩:=p;obtain ⟨j,qs⟩:=q;simp only [placeP,List.cons_append,bM,List.cons.injEq,true_and] at h;have ei:=bD (l:=ls) (i:=i.toNat) (by have:=hp.loc.1;have:=hp.loc.2;simp only at *;omega);have ej:=bD (l:=ls) (i:=j.toNat) (by have:=hq.loc.1;have:=hq.loc.2;simp only at *;omega)
 have st_of:∀(l:List Pj) (q:List UInt8),StI q->Stop idc (pjsP l ++ q):=fun l q hq=>by
  cases l with
  | nil=>simpa [pjsP] using hq.idc
  | cons z l=>
    obtain ⟨t,e⟩:=xEN z;simp only [pjsP,List.flatMap_cons,e,List.cons_append];exact Stop.cons (by decide) _
 unfold nmP at h;rw [ei,ej] at h;simp only [Option.map_some,Option.getD_some] at h;obtain ⟨e1,e2⟩:=xEQ (H.id _ _ ei) (H.id _ _ ej) (st_of ps r hr) (st_of qs s hs) h;have e3:=H.inj _ _ _ _ ei ej e1;obtain ⟨rfl,e4⟩:=xGK hp.pj hq.pj hr hs e2;have:=hp.loc.1;have:=hq.loc.1;simp only at *;obtain rfl:i=j:=by omega
 exact ⟨rfl,e4⟩
def third:List UInt8->Option UInt8
 | _ :: _ :: c :: _=>some c
 | _=>none
def idxN (s:ByteArray):Nat->List ByteArray->Int
 | _,[]=> -1
 | k,x :: r=>if x=s then k else idxN s (k+1) r
theorem xDH (s:ByteArray):∀(k:Nat) (l:List ByteArray),(0<=idxN s k l↔memN s l=true)
 | _,[]=>by simp [idxN,memN]
 | k,x :: r=>by
   unfold idxN;by_cases h:x=s
   ·rw [bA h];simp [memN,h]
   ·rw [aZ h,xDH s (k+1) r];simp [memN,h]
theorem xDS (l:List ByteArray) (s:ByteArray) (A:Option Addr) (c:Nat) (w:World) (hs:Slc 1 RN w A c l):
 Calls Tryz.prog 93 #[.slice A l.length c,.string s] w fun e' w'=>e' = .returned (.int .i64 (idxN s 0 l))/\w'=w:=by
 have hle:=hs.le;have hbig:=hs.big;obtain ⟨R,hR⟩:∃R,idxN s 0 l=R:=⟨_,rfl⟩;rw [hR];have HR:=aF hR;have HS:=aF hs;clear hR hs;go_enter Tryz.func93,Tryz.ntmps93
 go_wp2_with fail
 go_loop [5] (fun v=>∃k:Nat,k<=l.length/\v = .int .i64 k/\Hid (R=idxN s k (l.drop k))) (fun v=>l.length - (intOf v).toNat)
 case atStart=>exact ⟨0,by omega,rfl,aF HR.out.symm⟩
 case round=>
  obtain ⟨k,hk,rfl,hr⟩:=hrel;by_cases hlt:k<l.length
  ·have hd:=cS hlt;obtain ⟨b,o,rfl,hb,hx⟩:=HS.out.sl.at_ hlt;obtain ⟨y,hy⟩:∃y,l[k]=y:=⟨_,rfl⟩;rw [hy] at hd hx;have x0:w.cell? ⟨b,o+k,none⟩=some (.string y):=by simpa [RN] using hx
   have HN:Hid (R=if y=s then (k:Int) else idxN s (k+1) (l.drop (k+1))):=aF (by rw [hr.out,hd];rfl);clear hx hy hd hr;by_cases h0:y=s
   ·have HF:Hid (R=k):=aF (by rw [HN.out,bA h0]);subst h0;clear HN;go_wp2_with fail
    all_goals first
     | (go_ret;exact ⟨by rw [HF.out];rfl,rfl⟩)
     | (exfalso;simp_all;done)
   ·have HF:Hid (R=idxN s (k+1) (l.drop (k+1))):=aF (by rw [HN.out,aZ h0]);have e1:(y.toList == s.toList)=false:=beq_false_of_ne (fun h=>h0 (xAA (by rw [<- Lib.toList_data,<- Lib.toList_data];exact h)));clear HN h0;go_wp2_with fail
    go_round
    case rel=>exact ⟨k+1,by omega,by go_num,HF⟩
    case measure=>simp [intOf];omega
  ·have HN:Hid (R = -1):=aF (by rw [hr.out,bE (by omega)];rfl);clear hr;go_wp2_with fail
   go_ret;exact ⟨by rw [HN.out];rfl,rfl⟩
end
section
open Go Go.RowKit
theorem xGL {w:World} {B b o:Nat} {x:Blk} (h:RBk w B b o x):∃A c,w.cell? ⟨b,o,none⟩=some (.slice A x.stmts.length c)/\x.stmts.length<=9223372036854775807:=by
 obtain ⟨⟨A,c,h1,h2,h3,_⟩,_⟩:=h;exact ⟨A,c,h1,by omega⟩
theorem xFD (b:Bdy) (bh:BH) (n:Nat) (w:World) (H:BdAt w b bh) (hn:n<=b.blocks.length):
 Calls Tryz.prog 61 #[.agg (bdC b bh).toArray,.int .i64 n] w fun e' w'=>(∃q:Int,e' = .returned (.int .i64 q)/\Hid (cntP (b.blocks.take n)<=4611686018427387904->q=cntP (b.blocks.take n)))/\Below w.heap.size w w':=by
 obtain ⟨A1,c1,A2,c2,A3,c3,A4,c4,A5,c5⟩:=bh;have hbl:=H.blk.le;have hbg:=H.blk.big;have HBK:=aF H.blk;simp only at hbl hbg HBK;have HCW:=aF (cP w [Value.string b.name,.slice A1 b.regions.length c1,.slice A2 b.outl.length c2,.slice A3 b.types.length c3,.slice A4 b.locals.length c4,.int .i64 b.args,.slice A5 b.blocks.length c5] 28);have HBW:=aF ((aX w.heap.size w).alloc (aY _) (.cells ([Value.string b.name,.slice A1 b.regions.length c1,.slice A2 b.outl.length c2,.slice A3 b.types.length c3,.slice A4 b.locals.length c4,.int .i64 b.args,.slice A5 b.blocks.length c5]).toArray 28));have y6:(w.alloc (.cells ([Value.string b.name,.slice A1 b.regions.length c1,.slice A2 b.outl.length c2,.slice A3 b.types.length c3,.slice A4 b.locals.length c4,.int .i64 b.args,.slice A5 b.blocks.length c5]).toArray 28)).cell? ⟨w.heap.size,6,none⟩=some (.slice A5 b.blocks.length c5):=HCW.out 6 _ rfl;clear H HCW;unfold bdC;simp only;go_enter Tryz.func61,Tryz.ntmps61
 go_wp2_with fail
 go_loopw [5,6] (fun m i wr=>∃(k:Nat) (q:Int),k<=n/\i = .int .i64 k/\m = .int .i64 q/\Hid (cntP (b.blocks.take k)<=4611686018427387904->q=cntP (b.blocks.take k))/\wr=w.alloc (.cells ([Value.string b.name,.slice A1 b.regions.length c1,.slice A2 b.outl.length c2,.slice A3 b.types.length c3,.slice A4 b.locals.length c4,.int .i64 b.args,.slice A5 b.blocks.length c5]).toArray 28)) (fun _ i _=>n - (intOf i).toNat)
 case atStart=>exact ⟨0,0,by omega,rfl,rfl,aF (by simp [cntP]),rfl⟩
 case round=>
  obtain ⟨k,q,hk,rfl,rfl,HQ,rfl⟩:=hrel;by_cases hlt:k<n
  ·have hlt2:k<b.blocks.length:=by omega
   obtain ⟨bb,oo,rfl,hbb,hx⟩:=(HBK.out.keep RBk.keeps HBW.out).sl.at_ hlt2;obtain ⟨SA,sc,x0,x1⟩:=xGL hx;have HT:=aF (tE hlt2);generalize (b.blocks[k]).stmts.length=m at *;have hkn:(k:Int)<n:=by omega
   have hkn2:(k:Int)<b.blocks.length:=by omega
   clear hx;go_wp2_with fail
   go_roundw
   case rel=>
    refine ⟨k+1,_,by omega,by go_num,rfl,aF (fun h=>?_),by first | rfl | trivial⟩;have h1:=HT.out;have h2:=HQ.out (by omega);try unfold wrap64
    omega
   case measure=>simp [intOf];omega
  ·obtain rfl:k=n:=by omega
   go_wp2_with fail
   all_goals first
    | (go_ret;exact ⟨⟨_,rfl,HQ⟩,HBW.out⟩)
    | (exfalso;omega)
theorem rcount_any' (b:Bdy) (bh:BH) (w:World) (H:BdAt w b bh):
 Calls Tryz.prog 19 #[.agg (bdC b bh).toArray] w fun e' w'=>(∃q:Int,e' = .returned (.int .i64 q)/\Hid (cntP b.blocks<=4611686018427387904->q=cntP b.blocks))/\Below w.heap.size w w':=by
 obtain ⟨A1,c1,A2,c2,A3,c3,A4,c4,A5,c5⟩:=bh;have hbl:=H.blk.le;have hbg:=H.blk.big;simp only at hbl hbg;have HBW:=aF ((aX w.heap.size w).alloc (aY _) (.cells ([Value.string b.name,.slice A1 b.regions.length c1,.slice A2 b.outl.length c2,.slice A3 b.types.length c3,.slice A4 b.locals.length c4,.int .i64 b.args,.slice A5 b.blocks.length c5]).toArray 28));have HF:Hid (Calls Tryz.prog 61 #[.agg ([Value.string b.name,.slice A1 b.regions.length c1,.slice A2 b.outl.length c2,.slice A3 b.types.length c3,.slice A4 b.locals.length c4,.int .i64 b.args,.slice A5 b.blocks.length c5]).toArray,.int .i64 b.blocks.length] (w.alloc (.cells ([Value.string b.name,.slice A1 b.regions.length c1,.slice A2 b.outl.length c2,.slice A3 b.types.length c3,.slice A4 b.locals.length c4,.int .i64 b.args,.slice A5 b.blocks.length c5]).toArray 28)) _):=aF (xFD b ⟨A1,c1,A2,c2,A3,c3,A4,c4,A5,c5⟩ b.blocks.length _ (H.keep HBW.out) (aY _));rw [cA] at HF;clear H;unfold bdC;simp only;go_enter Tryz.func19,Tryz.ntmps19
 go_wp2_with (go_at_call 61;refine HF.out.mono ?_;rintro e' w1 ⟨⟨q,rfl,HQ⟩,hb⟩)
 go_ret;exact ⟨⟨_,rfl,HQ⟩,HBW.out.trans (hb.mono HBW.out.size)⟩
end
section
open Go Go.RowKit Go.Maps
theorem xAE {b:Bdy} {bh:BH} {w:World} (H:Rk w b bh) (o:Opd) (A:Option Addr) (c:Nat) (hp:Slc 2 RPj w A c o.place.proj):
 Calls Tryz.prog 100 #[.agg (bdC b bh).toArray,.agg (opC o A c).toArray] w fun e' w'=>e' = .returned (.int .i64 (opE b o))/\Below w.heap.size w w':=by
 have HT:=aF (fun W (hb:Below w.heap.size w W)=>xAG b bh o.place A c W (H.keep hb).at_ (hp.keep RPj.keeps hb) H.ok.okay);have HZ:=aF (fun W=>xAF o.place A c W);have HD:=aF (fun W (hb:Below w.heap.size w W)=>xDO o.place 0 A c W (hp.keep RPj.keeps hb));have HC:=aF (fun W (hb:Below w.heap.size w W) (i:Int)=>xEM b.types H.ok.tyok (i.toNat+1) i (by omega) bh.A3 bh.c3 W (H.keep hb).at_.typ);have HQ:Hid (opE b o=if o.kind<0\/4<o.kind then 14 else if (o.kind≠2/\o.kind≠3/\o.n≠0)\/(1<o.kind/\zeroP o.place=false) then 2 else if o.kind=3/\o.n≠0/\o.n≠1 then 3 else if 1<o.kind then 0 else if (tyB b o.place).2≠0 then (tyB b o.place).2 else if o.kind=0 then fail22 (!copB b.types (tyB b o.place).1) else fail22 (hasD o.place.proj 0)):=aF rfl;generalize opE b o=q at HQ ⊢;generalize zeroP o.place=z at HZ HQ;generalize hasD o.place.proj 0=hd at HD HQ;generalize tyB b o.place=t at HT HQ;obtain ⟨t,e⟩:=t;simp only at HQ;obtain ⟨cp,hcp⟩:∃cp,copB b.types t=cp:=⟨_,rfl⟩;rw [hcp] at HQ;have HCP:=aF hcp;obtain ⟨k,pl,n⟩:=o;simp only at HQ HT HZ HD;clear H hp hcp;unfold bdC at *;unfold opC;simp only;by_cases h0:k<0\/4<k
 ·have HF:Hid (q=14):=aF (by rw [HQ.out,bA h0]);clear HQ HT HZ HD HC;go_enter Tryz.func100,Tryz.ntmps100
  go_wp2_with fail
  all_goals first
   | (exfalso;omega)
   | (go_ret;exact ⟨by rw [HF.out];rfl,aH⟩)
 rcases (show k=0\/k=1\/k=2\/k=3\/k=4 by omega) with rfl | rfl | rfl | rfl | rfl
 ·by_cases hn:n=0
  ·subst hn;by_cases he:e=0
   ·subst he;have HF:Hid (q=fail22 (!cp)):=aF (by rw [HQ.out];simp);clear HQ HZ HD h0;cases cp
    all_goals
     go_enter Tryz.func100,Tryz.ntmps100
     go_wp2_with (first | (go_at_call 95;refine (HT.out _ (bel2 _ _ _)).mono ?_;rintro e' w1 ⟨rfl,hb1⟩;have HB:=aF ((bel2 _ _ _).trans (hb1.mono (bel2 _ _ _).size));obtain ⟨z,y⟩:=cT hb1;have z3:=z 3 _ rfl;obtain ⟨y0,y1,y2,y3⟩:=aP y;clear z y hb1) | (go_at_call 144;refine (HC.out _ HB.out _).mono ?_;rintro e' w2 ⟨rfl,hw⟩;obtain rfl:=hw.symm;rw [HCP.out]))
     go_ret;exact ⟨by rw [HF.out];rfl,HB.out⟩
   ·have HF:Hid (q=e):=aF (by rw [HQ.out];simp [he]);have e5:(e != 0)=true:=by simp [he]
    clear HQ HZ HD h0 HC he;go_enter Tryz.func100,Tryz.ntmps100
    go_wp2_with (go_at_call 95;refine (HT.out _ (bel2 _ _ _)).mono ?_;rintro e' w1 ⟨rfl,hb1⟩;have HB:=aF ((bel2 _ _ _).trans (hb1.mono (bel2 _ _ _).size));obtain ⟨z,y⟩:=cT hb1;have z3:=z 3 _ rfl;obtain ⟨y0,y1,y2,y3⟩:=aP y;clear z y hb1)
    go_ret;exact ⟨by rw [HF.out];rfl,HB.out⟩
  ·have HF:Hid (q=2):=aF (by rw [HQ.out];simp [hn]);have e5:(n != 0)=true:=by simp [hn]
   clear HQ HZ HD h0 HC HT hn;go_enter Tryz.func100,Tryz.ntmps100
   go_wp2_with fail
   go_ret;exact ⟨by rw [HF.out];rfl,aH⟩
 ·by_cases hn:n=0
  ·subst hn;by_cases he:e=0
   ·subst he;have HF:Hid (q=fail22 hd):=aF (by rw [HQ.out];simp);clear HQ HZ HC h0;cases hd
    all_goals
     go_enter Tryz.func100,Tryz.ntmps100
     go_wp2_with (first | (go_at_call 95;refine (HT.out _ (bel2 _ _ _)).mono ?_;rintro e' w1 ⟨rfl,hb1⟩;have HB:=aF ((bel2 _ _ _).trans (hb1.mono (bel2 _ _ _).size));obtain ⟨z,y⟩:=cT hb1;have z3:=z 3 _ rfl;obtain ⟨y0,y1,y2,y3⟩:=aP y;clear z y hb1) | (go_at_call 102;refine (HD.out _ HB.out).mono ?_;rintro e' w2 ⟨rfl,hb2⟩;have HB2:=aF (HB.out.trans (hb2.mono HB.out.size));clear hb2))
     go_ret;exact ⟨by rw [HF.out];rfl,HB2.out⟩
   ·have HF:Hid (q=e):=aF (by rw [HQ.out];simp [he]);have e5:(e != 0)=true:=by simp [he]
    clear HQ HZ HD h0 HC he;go_enter Tryz.func100,Tryz.ntmps100
    go_wp2_with (go_at_call 95;refine (HT.out _ (bel2 _ _ _)).mono ?_;rintro e' w1 ⟨rfl,hb1⟩;have HB:=aF ((bel2 _ _ _).trans (hb1.mono (bel2 _ _ _).size));obtain ⟨z,y⟩:=cT hb1;have z3:=z 3 _ rfl;obtain ⟨y0,y1,y2,y3⟩:=aP y;clear z y hb1)
    go_ret;exact ⟨by rw [HF.out];rfl,HB.out⟩
  ·have HF:Hid (q=2):=aF (by rw [HQ.out];simp [hn]);have e5:(n != 0)=true:=by simp [hn]
   clear HQ HZ HD h0 HC HT hn;go_enter Tryz.func100,Tryz.ntmps100
   go_wp2_with fail
   go_ret;exact ⟨by rw [HF.out];rfl,aH⟩
 ·have HF:Hid (q=if z=false then 2 else 0):=aF (by rw [HQ.out];simp);clear HQ HT HD HC h0;cases z
  all_goals
   go_enter Tryz.func100,Tryz.ntmps100
   go_wp2_with (go_at_call 98;refine (HZ.out _).mono ?_;rintro e' w1 ⟨rfl,hb1⟩;have HB:=aF ((bel2 _ _ _).trans (hb1.mono (bel2 _ _ _).size));obtain ⟨z,y⟩:=cT hb1;obtain ⟨y0,y1,y2,y3⟩:=aP y;clear z y hb1)
   all_goals
    go_ret;exact ⟨by rw [HF.out];rfl,HB.out⟩
 ·cases z
  ·have HF:Hid (q=2):=aF (by rw [HQ.out];simp);clear HQ HT HD HC h0;go_enter Tryz.func100,Tryz.ntmps100
   go_wp2_with (go_at_call 98;refine (HZ.out _).mono ?_;rintro e' w1 ⟨rfl,hb1⟩;have HB:=aF ((bel2 _ _ _).trans (hb1.mono (bel2 _ _ _).size));obtain ⟨z,y⟩:=cT hb1;obtain ⟨y0,y1,y2,y3⟩:=aP y;clear z y hb1)
   all_goals
    go_ret;exact ⟨by rw [HF.out];rfl,HB.out⟩
  ·by_cases hn0:n=0
   ·have HF:Hid (q=0):=aF (by rw [HQ.out];simp [hn0]);subst hn0;clear HQ HT HD HC h0;go_enter Tryz.func100,Tryz.ntmps100
    go_wp2_with (go_at_call 98;refine (HZ.out _).mono ?_;rintro e' w1 ⟨rfl,hb1⟩;have HB:=aF ((bel2 _ _ _).trans (hb1.mono (bel2 _ _ _).size));obtain ⟨z,y⟩:=cT hb1;obtain ⟨y0,y1,y2,y3⟩:=aP y;clear z y hb1)
    all_goals
     go_ret;exact ⟨by rw [HF.out];rfl,HB.out⟩
   ·have e5:(n != 0)=true:=by simp [hn0]
    by_cases hn1:n=1
    ·have HF:Hid (q=0):=aF (by rw [HQ.out];simp [hn1]);subst hn1;clear HQ HT HD HC h0 e5;go_enter Tryz.func100,Tryz.ntmps100
     go_wp2_with (go_at_call 98;refine (HZ.out _).mono ?_;rintro e' w1 ⟨rfl,hb1⟩;have HB:=aF ((bel2 _ _ _).trans (hb1.mono (bel2 _ _ _).size));obtain ⟨z,y⟩:=cT hb1;obtain ⟨y0,y1,y2,y3⟩:=aP y;clear z y hb1)
     all_goals
      go_ret;exact ⟨by rw [HF.out];rfl,HB.out⟩
    ·have HF:Hid (q=3):=aF (by rw [HQ.out];simp [hn0,hn1]);have e6:(n != 1)=true:=by simp [hn1]
     clear HQ HT HD HC h0 hn0 hn1;go_enter Tryz.func100,Tryz.ntmps100
     go_wp2_with (go_at_call 98;refine (HZ.out _).mono ?_;rintro e' w1 ⟨rfl,hb1⟩;have HB:=aF ((bel2 _ _ _).trans (hb1.mono (bel2 _ _ _).size));obtain ⟨z,y⟩:=cT hb1;obtain ⟨y0,y1,y2,y3⟩:=aP y;clear z y hb1)
     all_goals
      go_ret;exact ⟨by rw [HF.out];rfl,HB.out⟩
 ·by_cases hn:n=0
  ·subst hn;have HF:Hid (q=if z=false then 2 else 0):=aF (by rw [HQ.out];simp);clear HQ HT HD HC h0;cases z
   all_goals
    go_enter Tryz.func100,Tryz.ntmps100
    go_wp2_with (go_at_call 98;refine (HZ.out _).mono ?_;rintro e' w1 ⟨rfl,hb1⟩;have HB:=aF ((bel2 _ _ _).trans (hb1.mono (bel2 _ _ _).size));obtain ⟨z,y⟩:=cT hb1;obtain ⟨y0,y1,y2,y3⟩:=aP y;clear z y hb1)
    all_goals
     go_ret;exact ⟨by rw [HF.out];rfl,HB.out⟩
  ·have HF:Hid (q=2):=aF (by rw [HQ.out];simp [hn]);have e5:(n != 0)=true:=by simp [hn]
   clear HQ HZ HD h0 HC HT hn;go_enter Tryz.func100,Tryz.ntmps100
   go_wp2_with fail
   go_ret;exact ⟨by rw [HF.out];rfl,aH⟩
theorem xBY {b:Bdy} {bh:BH} {w:World} (H:BdAt w b bh) (hok:DeclOk b) (o:Opd) (k0:Int) (A:Option Addr) (c:Nat) (hp:Slc 2 RPj w A c o.place.proj) (ho:opE b o=0):
 Calls Tryz.prog 101 #[.agg (bdC b bh).toArray,.agg (opC o A c).toArray,.int .i64 k0] w fun e' w'=>e' = .returned (.bool (decide (kindO b o=k0)))/\Below w.heap.size w w':=by
 have HT:=aF (fun W (hb:Below w.heap.size w W)=>xAG b bh o.place A c W (H.keep hb) (hp.keep RPj.keeps hb) hok.okay);have hkd:=xEO ho;have hty:=wR ho;have HQ:Hid (kindO b o=if o.kind=2 then 2 else if o.kind=3 then 1 else if o.kind=4 then 0 else kindT b (tyB b o.place).1):=aF rfl;have HS:=aF H.typ;have hin:=fZ hok.okay (l:=o.place.loc) (ps:=o.place.proj);change (tyB b o.place).2=0->0<=(tyB b o.place).1/\(tyB b o.place).1<b.types.length at hin;generalize kindO b o=q at HQ ⊢;generalize tyB b o.place=t at HT HQ hty hin;obtain ⟨t,e⟩:=t;simp only at HQ hty hin;obtain ⟨k,hk⟩:∃k,o.kind=k:=⟨_,rfl⟩;rw [hk] at hkd hty HQ;have hle3:=H.typ.le;have hbig3:=H.typ.big;clear H hp ho;unfold opC;rw [hk];clear hk;by_cases h01:k=0\/k=1
 ·obtain rfl:e=0:=hty (by omega) (by omega) (by omega);obtain ⟨g1,g2⟩:=hin rfl;obtain ⟨i,rfl⟩:=bG g1;have hlt:i<b.types.length:=by omega
  obtain ⟨bb,oo,hA3,hbb,hx⟩:=HS.out.sl.at_ hlt;have HF:Hid (q=b.types[i].kind):=aF (by rw [HQ.out,aZ (by omega),aZ (by omega),aZ (by omega),kindT];simp [hlt]);generalize b.types[i]=ty at hx HF;obtain ⟨r1,-⟩:=hx;unfold bdC at *;rw [hA3] at HT ⊢;clear HQ HS hty hin g1;rcases h01 with rfl | rfl
  all_goals
   go_enter Tryz.func101,Tryz.ntmps101
   go_wp2_with (go_at_call 95;refine (HT.out _ (bel2 _ _ _)).mono ?_;rintro e' w1 ⟨rfl,hb1⟩;have HB:=aF ((bel2 _ _ _).trans (hb1.mono (bel2 _ _ _).size));obtain ⟨y,-⟩:=cT hb1;have y3:=y 3 _ rfl;have x1:=cJ HB.out r1;clear y hb1)
   all_goals
    go_ret;refine ⟨?_,HB.out⟩;rw [HF.out];refine congrArg (fun b=>Ending.returned (Value.bool b)) ?_;rw [bR];simp
 ·have HF:Hid (q=if k=2 then 2 else if k=3 then 1 else 0):=aF (by
   rw [HQ.out]
   rcases (show k=2\/k=3\/k=4 by omega) with rfl | rfl | rfl <;> simp)
  clear HQ HS hty hin HT;unfold bdC;rcases (show k=2\/k=3\/k=4 by omega) with rfl | rfl | rfl
  all_goals
   go_enter Tryz.func101,Tryz.ntmps101
   go_wp2_with fail
   all_goals
    go_ret;refine ⟨?_,aH⟩;rw [HF.out];refine congrArg (fun b=>Ending.returned (Value.bool b)) ?_;simp;try rw [bR]
    try simp
    try omega
theorem xDP {b:Bdy} {bh:BH} {w:World} (H:Rk w b bh) (o:Opd) (f:Nat) (A:Option Addr) (c:Nat) (hp:Slc 2 RPj w A c o.place.proj) (ho:opE b o=0) (hf:f<b.types.length):
 Calls Tryz.prog 143 #[.agg (bdC b bh).toArray,.agg (opC o A c).toArray,.int .i64 f] w fun e' w'=>e' = .returned (.bool (fitsO b o f))/\Below w.heap.size w w':=by
 have HT:=aF (fun W (hb:Below w.heap.size w W)=>xAG b bh o.place A c W (H.keep hb).at_ (hp.keep RPj.keeps hb) H.ok.okay);have HK:=aF (fun W (hb:Below w.heap.size w W) (q:Int)=>xBY (H.keep hb).at_ H.ok o q A c (hp.keep RPj.keeps hb) ho);have HS:=aF (fun W (hb:Below w.heap.size w W) (i:Int)=>xEL b H.ok (i.toNat+(f:Int).toNat+1) i f (by omega) bh.A3 bh.A2 bh.c3 bh.c2 W (H.keep hb).at_.typ (H.keep hb).at_.out);have hkd:=xEO ho;have hty:=wR ho;have hle1:=H.at_.reg.le;have hbg1:=H.at_.reg.big;have hle3:=H.at_.typ.le;have hbig3:=H.at_.typ.big;obtain ⟨bb,oo,hA3,hbb,hx⟩:=H.at_.typ.sl.at_ hf;have hkt:kindT b (f:Int)=b.types[f].kind:=by unfold kindT;simp [hf]
 have HQ:Hid (fitsO b o f=if o.kind≠0/\o.kind≠1 then decide (kindO b o=b.types[f].kind) else subB b (tyB b o.place).1 f):=aF (by rw [<- hkt];rfl);obtain ⟨ty,hty2⟩:∃ty,b.types[f]=ty:=⟨_,rfl⟩;rw [hty2] at hx HQ;obtain ⟨r1,-⟩:=hx;generalize fitsO b o f=q at HQ ⊢;generalize tyB b o.place=t at HT HQ hty;generalize kindO b o=ko at HK HQ;obtain ⟨t,e⟩:=t;simp only at HQ hty;obtain ⟨k,hk⟩:∃k,o.kind=k:=⟨_,rfl⟩;rw [hk] at hkd hty HQ;clear H hp ho hkt hty2;unfold bdC at *;unfold opC at *;rw [hk] at HK ⊢;rw [hA3] at HT HK HS ⊢;clear hk;by_cases h01:k=0\/k=1
 ·obtain rfl:e=0:=hty (by omega) (by omega) (by omega);have HF:Hid (q=subB b t f):=aF (by rw [HQ.out,aZ (by omega)]);have HC:=aF (fun W hb=>HS.out W hb t);generalize subB b t f=sb at HF HC;clear HQ HS HK hty;rcases h01 with rfl | rfl
  all_goals
   go_enter Tryz.func143,Tryz.ntmps143
   go_wp2_with (first
    | (go_at_call 95;refine (HT.out _ (bel2 _ _ _)).mono ?_;rintro e' w1 ⟨rfl,hb1⟩;have HB:=aF ((bel2 _ _ _).trans (hb1.mono (bel2 _ _ _).size));obtain ⟨y,-⟩:=cT hb1;obtain ⟨-,y1,y2,y3⟩:=aP y;clear y hb1)
    | (go_at_call 172;refine (HC.out _ HB.out).mono ?_;rintro e' w2 ⟨rfl,hb2⟩;have HB2:=aF (HB.out.trans (hb2.mono HB.out.size));clear hb2))
   go_ret;exact ⟨by rw [HF.out];rfl,HB2.out⟩
 ·have HF:Hid (q=decide (ko=ty.kind)):=aF (by rw [HQ.out,bA ⟨fun h=>h01 (Or.inl h),fun h=>h01 (Or.inr h)⟩]);have e0:(1:Int)<k:=by omega
  clear HQ HS HT hty;have HB0:=aF ((bel2 w (.cells ([Value.string b.name,.slice bh.A1 b.regions.length bh.c1,.slice bh.A2 b.outl.length bh.c2,.slice (some ⟨bb,oo,none⟩) b.types.length bh.c3,.slice bh.A4 b.locals.length bh.c4,.int .i64 b.args,.slice bh.A5 b.blocks.length bh.c5]:List Value).toArray 28) (.cells ([Value.int .i64 k,.int .i64 o.place.loc,.slice A o.place.proj.length c,.int .i64 o.n]:List Value).toArray 160)).drew);have hcc:=cT (w:=w) (l1:=[Value.string b.name,.slice bh.A1 b.regions.length bh.c1,.slice bh.A2 b.outl.length bh.c2,.slice (some ⟨bb,oo,none⟩) b.types.length bh.c3,.slice bh.A4 b.locals.length bh.c4,.int .i64 b.args,.slice bh.A5 b.blocks.length bh.c5]) (l2:=[Value.int .i64 k,.int .i64 o.place.loc,.slice A o.place.proj.length c,.int .i64 o.n]) (t1:=28) (t2:=160) ((aX _ _).drew);have HCC:=aF hcc;clear hcc;go_enter Tryz.func143,Tryz.ntmps143
  go_wp2_with fail
  have hS:=bJ HCC.out.1 (bJ HCC.out.2 (cJ HB0.out r1));refine cQ (S:=fun X=>(aA (bdM b bh.A1 bh.c1 bh.A2 bh.c2 (some ⟨bb,oo,none⟩) bh.c3 bh.A4 bh.c4 bh.A5 bh.c5 []) X w.heap.size)/\(aA [Value.int .i64 k,.int .i64 o.place.loc,.slice A o.place.proj.length c,.int .i64 o.n] X (w.heap.size+1))/\X.cell? ⟨bb,oo+f * 5,none⟩=some (.int .i64 ty.kind)) [0,1,2,3,4,5,6,7,8,9] (by kernel_rfl) ?_;(iterate 8 (refine cR (v:=?_) ?_ hS ?_;rotate_left;(next=>(rintro X ⟨hX,hY,hZ⟩;obtain ⟨s0,s1,s2,s3,s4,s5,s6⟩:=aS hX;obtain ⟨u0,u1,u2,u3⟩:=aP hY;(try simp only [aI]);go_simp;rfl));simp only [aM]));(refine cM (fun K1 hK1=>?_);simp only [aM];rw [bA (by rfl)];go_simp);refine (HK.out _ HB0.out ty.kind).mono ?_;rintro e' w2 ⟨rfl,hb⟩;replace hS:=bJ (cK hS.1 hb) (bJ (cK hS.2.1 hb) (cJ hb hS.2.2));have HB3:=aF (HB0.out.trans (hb.mono HB0.out.size));clear hb;refine hK1.out _ _ (fun _=>hS) ?_;((refine cR (v:=?_) ?_ hS ?_;rotate_left;(next=>(rintro X -;(try simp only [aI]);go_simp;rfl));simp only [aM]))
  refine cV ?_;go_wp2_with fail
  go_ret;exact ⟨by rw [HF.out];rfl,HB3.out⟩
end
section
open Go Go.RowKit
theorem xDF (l:List Opd) (B:Option Addr) (d:Nat) (w:World) (hs:Slc 4 ROp w B d l):
 Calls Tryz.prog 64 #[.slice B l.length d] w fun e' w'=>(∃q:Int,e' = .returned (.int .i64 q)/\0<=q/\q<=20000)/\Below w.heap.size w w':=by
 have hle:=hs.le;have hbg:=hs.big;obtain ⟨n0,hn0⟩:∃n:Nat,min l.length 9000=n:=⟨_,rfl⟩;have hn1:n0<=l.length:=by omega
 have hn2:n0<=9000:=by omega
 have HS:=aF (hs.takeN n0);have hlen:(l.take n0).length=n0:=by simp;omega
 have hmin:min (l.length:Int) 9000=(n0:Int):=by omega
 have hcut:∀W,(Instr.slice 59 (.slice B l.length d) none (some (.int .i64 (n0:Int))) none).run Tryz.prog W = .ok (.slice B n0 d) W:=fun W=>by
  have:=uS (P:=Tryz.prog) 59 160 B l.length d n0 4 Tryz.underlying59 Tryz.sizeOf160 hn1 hle W;rwa [show cutA B d 0 4=B by cases B <;> simp [cutA,Addr.add]] at this
 generalize l.take n0=l' at HS hlen;generalize l.length=L at hcut hmin ⊢;clear hs;go_enter Tryz.func64,Tryz.ntmps64
 go_wp2_with fail
 clear hmin hcut;go_loopw [3,13] (fun v i wr=>∃(k:Nat) (m:Int),k<=n0/\i = .int .i64 k/\v = .int .i64 m/\0<=m/\m<=9000/\Hid (Below w.heap.size w wr)) (fun _ i _=>n0 - (intOf i).toNat)
 case atStart=>exact ⟨0,_,by omega,rfl,rfl,by omega,by omega,aF (aX _ _)⟩
 case round=>
  obtain ⟨k,m,hk,rfl,rfl,hm0,hm1,HB⟩:=hrel;by_cases hlt:k<n0
  ·have hlt2:k<l'.length:=by omega
   obtain ⟨b5,o5,rfl,hb5,hx⟩:=HS.out.sl.at_ hlt2;generalize l'[k]=o at hx;obtain ⟨p0,⟨p1,A2,c2,p2,hc1,hc2,hsl⟩,p3⟩:=ROp.keeps _ _ _ w.heap.size _ _ _ (aY _) hb5 HB.out hx;have p2':wr.cell? ⟨b5,o5+k * 4+2,none⟩=some (.slice A2 o.place.proj.length c2):=p2;have hsz:=HB.out.size;clear hx hsl p2;go_wp2_with fail
   all_goals first
    | (go_ret;exact ⟨⟨_,rfl,by omega,by omega⟩,HB.out.alloc hsz _⟩)
    | (go_roundw
       case rel=>exact ⟨k+1,_,by omega,by go_num,rfl,by omega,by omega,aF (HB.out.alloc hsz _)⟩
       case measure=>simp [intOf];omega)
  ·go_wp2_with fail
   go_ret;exact ⟨⟨_,rfl,by omega,by omega⟩,HB.out⟩
end
end Go.Proofs.YtmknfbfppmkcfaaGreatDoor
