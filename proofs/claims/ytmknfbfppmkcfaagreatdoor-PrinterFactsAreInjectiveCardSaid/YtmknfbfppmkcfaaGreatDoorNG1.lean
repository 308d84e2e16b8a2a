/-
  PrinterFactsAreInjective: the texts that this claim has beyond those of PrinterPlaces. (part 1)
-/
import Derived.Test.YtmknfbfppmkcfaaGreatDoorPP0
import Derived.Test.YtmknfbfppmkcfaaGreatDoorPP1
import Derived.Test.YtmknfbfppmkcfaaGreatDoorPP2
import Derived.Test.YtmknfbfppmkcfaaGreatDoorPP3
import Derived.Test.YtmknfbfppmkcfaaGreatDoorPP4
import Derived.Test.YtmknfbfppmkcfaaGreatDoorPP5
import Derived.Test.YtmknfbfppmkcfaaGreatDoorPP6
import Derived.Test.YtmknfbfppmkcfaaGreatDoorPP7
import Derived.Test.YtmknfbfppmkcfaaGreatDoorPP8
import Derived.Test.YtmknfbfppmkcfaaGreatDoorPP9
import Derived.Test.YtmknfbfppmkcfaaGreatDoorPP10
import Derived.Test.YtmknfbfppmkcfaaGreatDoorPP11
import Derived.Test.YtmknfbfppmkcfaaGreatDoorPP12
import Derived.Test.YtmknfbfppmkcfaaGreatDoorPP13
import Derived.Test.YtmknfbfppmkcfaaGreatDoorPP14
import Derived.Test.YtmknfbfppmkcfaaGreatDoorPP15
import Derived.Test.YtmknfbfppmkcfaaGreatDoorPP18
import Derived.Test.YtmknfbfppmkcfaaGreatDoorPP19
import Derived.Test.YtmknfbfppmkcfaaGreatDoorPP21
import Derived.Lib.Hide
import Derived.Below
import Derived.WalkSmall
import Derived.Laws.World
import Derived.Test.YtmknfbfppmkcfaaGreatDoorProg
import Derived.WalkKit
import Derived.WalkSpells
import Derived.WalkLawsBesides
import Derived.Deep.RegionHeld3
import Derived.Deep.DeepFit
import Derived.Deep.QuietTactic
import Derived.BigQuiet
import Derived.OwnWalk
import Derived.Maps.AppendAt
import Derived.Deep.DeepCutAuto
import Derived.StillTailTactics
import Derived.Lib.ItoaNum
import Derived.Lib.Join
import Derived.RangeFuncNested
import Derived.RangeFuncBound
import Derived.RangeFuncCalls
import Derived.RangeFuncLeaves
import Derived.OwnWalkIn
import Derived.TacticsInMore
import Derived.LoopNIn
import Derived.LoopIn
import Derived.Lib.ItoaLen
import Derived.Laws.IdiomStrings
import Derived.Shelf.Abstract
import Derived.OrdersHeld
import Derived.Deep.RegionHeld
import Derived.Test.YtmknfbfppmkcfaaGreatDoorSg
import Derived.Maps.OwnSet
import Derived.Maps.OwnOps
import Derived.StringKeys
import Derived.Deep.MidRow
import Derived.Deep.LoopGhost
import Derived.WideKeyPair
import Derived.WideKeyArr
import Derived.Test.YtmknfbfppmkcfaaGreatDoorSj
import Derived.Lib.AppendIntMem
import Derived.Test.YtmknfbfppmkcfaaGreatDoorSh
import Derived.RangeFuncBox
import Derived.Lib.AppendStr
import Derived.Lib.Builder
import Derived.WalkMore
import Derived.ChangeKeysEq
import Derived.Deep.CutBlock
import Derived.Test.YtmknfbfppmkcfaaGreatDoorRows
import Derived.ProofKit
import Derived.Deep.Slices
import Derived.Deep.Fields
import Derived.Lib.SmallJoins
import Derived.OpenShut
import Derived.LaidMore
import Derived.Stop.Joined
import Derived.Stop.LaidErr
import Derived.Lay
import Derived.SevenTiedAt
import Derived.Lib.LaidTab
import Derived.Test.YtmknfbfppmkcfaaGreatDoorTie
import Derived.Test.YtmknfbfppmkcfaaGreatDoorCards
import Derived.JoinedOf
import Derived.SizedLaws
namespace Go.Proofs.YtmknfbfppmkcfaaGreatDoor
set_option maxRecDepth 100000
set_option maxHeartbeats 16000000
section
open Go Go.RowKit
theorem xAB : type_of% @Option.some.injEq := @Option.some.injEq
theorem xAC : type_of% @List.map_cons := @List.map_cons
end
section
open Go.RowKit
theorem keep0 {w1 W W':World} (hb:Below W.heap.size W W') (h:Below w1.heap.size w1 W):Below w1.heap.size w1 W':=h.trans (hb.mono h.size)
theorem neqPj (x y:Pj) (w:World):Sem.run Tryz.prog (binOp .neq 102 (.agg #[.int .i64 x.kind,.int .i64 x.field]) (.agg #[.int .i64 y.kind,.int .i64 y.field])) w = .ok (.bool (!decide (x=y))) w:=by
 have u3:=Tryz.underlying3;have a3:=Tryz.isAgg3;have z3:=Tryz.sizeOf3;have hS:Tryz.prog.underlying 102=some (.struct (Tryz.prog.fieldsOf 102)):=by kernel_rfl
 have hp:Tryz.prog.stoodInHeld 102=false:=by kernel_rfl
 rw [run_neq_struct,show (10000:Nat)=9999+1 from rfl,run_equalIn_agg w 9999 102 _ _ hS hp];simp only [Program.fieldsOf,Tryz.underlying102];go_simp;obtain ⟨k1,f1⟩:=x;obtain ⟨k2,f2⟩:=y;by_cases h1:k1=k2 <;> by_cases h2:f1=f2 <;> simp [h1,h2]
def isPre (p q:Plc):Bool:=decide (p.loc=q.loc/\p.proj.length<=q.proj.length/\p.proj=q.proj.take p.proj.length)
theorem xGV (p q:Plc) (A B:Option Addr) (c d:Nat) (w:World) (hx:Slc 2 RPj w A c p.proj) (hy:Slc 2 RPj w B d q.proj):
 Calls Tryz.prog 106 #[.agg #[.int .i64 p.loc,.slice A p.proj.length c],.agg #[.int .i64 q.loc,.slice B q.proj.length d]] w fun e w'=>e = .returned (.bool (isPre p q))/\Below w.heap.size w w':=by
 have hle:=hx.le;have hbig:=hx.big;have hle2:=hy.le;have hbig2:=hy.big;have hs:=hx.sl;have hs2:=hy.sl;have hB0:=bel2 w (.cells #[.int .i64 p.loc,.slice A p.proj.length c] 46) (.cells #[.int .i64 q.loc,.slice B q.proj.length d] 46);by_cases h1:p.loc=q.loc/\p.proj.length<=q.proj.length
 ·obtain ⟨h1,h2⟩:=h1;have t1:(p.loc != q.loc)=false:=by simp [h1]
  have hyes0:Hid (∀k,p.proj.length<=k->p.proj.take k=q.proj.take k->isPre p q=true):=aF (fun k hk he=>by
   have hk2:p.proj=(q.proj.take k).take p.proj.length:=by rw [<- he,List.take_of_length_le hk,cA]
   rw [List.take_take,Nat.min_eq_left hk] at hk2
   simp [isPre,h1,h2,<- hk2])
  have hno0:Hid (∀k (a:k<p.proj.length) (b:k<q.proj.length),¬p.proj[k]=q.proj[k]->isPre p q=false):=aF (fun k a b hne=>by
   have:¬p.proj=q.proj.take p.proj.length:=fun he=>hne (by
    have h3:p.proj[k]?=(q.proj.take p.proj.length)[k]?:=(by rw [<- he]);rw [List.getElem?_take,bA a,bD a,bD b] at h3
    simpa using h3)
   simp [isPre,this])
  clear hx hy h1;go_enter Tryz.func106,Tryz.ntmps106
  go_wp2_with fail
  go_loopw [5] (fun v wr=>∃k:Nat,k<=p.proj.length/\v = .int .i64 k/\wr.cell? ⟨w.heap.size,1,none⟩=some (.slice A p.proj.length c)/\wr.cell? ⟨w.heap.size+1,1,none⟩=some (.slice B q.proj.length d)/\Below w.heap.size w wr/\Hid (p.proj.take k=q.proj.take k)) (fun v _=>p.proj.length - (intOf v).toNat)
  case atStart=>exact ⟨0,by omega,rfl,by go_simp,by go_simp,hB0,aF (by simp)⟩
  case round=>
   obtain ⟨k,hk,rfl,z1,z2,hB,he⟩:=hrel;by_cases hlt:k<p.proj.length
   ·have hlt2:k<q.proj.length:=(by omega);obtain ⟨b,off,rfl,hb,hr⟩:=hs.at_ hlt;obtain ⟨b2,off2,rfl,hb2,hr2⟩:=hs2.at_ hlt2;obtain ⟨g1,g2⟩:=RPj.keeps _ _ _ w.heap.size _ _ _ (aY _) hb hB hr;obtain ⟨g3,g4⟩:=RPj.keeps _ _ _ w.heap.size _ _ _ (aY _) hb2 hB hr2;have hne:=neqPj p.proj[k] q.proj[k];have hyes:=aF (fun h=>kG he.out hlt hlt2 h);have hno:=aF (hno0.out k hlt hlt2);clear he hr hr2 hno0;generalize p.proj[k]=x at *;generalize q.proj[k]=y at *;clear hs hs2 hB0;by_cases hxy:x=y
    ·have hf:(!decide (x=y))=false:=by simp [hxy]
     rw [hf] at hne;have hyes':=aF (hyes.out hxy);clear hyes hno hf hxy;go_wp2
     go_quiet (fail)
     go_wp2
     go_roundw
     case rel=>exact ⟨k+1,by omega,by go_num,z1,z2,aG hB _,hyes'⟩
     case measure=>simp [intOf];omega
    ·have hf:(!decide (x=y))=true:=by simp [hxy]
     rw [hf] at hne;have hno':=aF (hno.out hxy);clear hyes hno hf hxy;go_wp2
     go_quiet (fail)
     go_wp2
     go_ret;exact ⟨ret_b (by simp [hno'.out]),aG hB _⟩
   ·have hfin:=aF (hyes0.out k (by omega) he.out);clear he hs hs2;go_wp2
    go_ret;exact ⟨ret_b (by simp [hfin.out]),hB⟩
 ·have hfin:Hid (isPre p q=false):=aF (by simp only [isPre,decide_eq_false_iff_not];exact fun h=>h1 ⟨h.1,h.2.1⟩);clear hx hy hs hs2;by_cases h2:p.loc=q.loc
  ·have t1:(p.loc != q.loc)=false:=by simp [h2]
   have h3:q.proj.length<p.proj.length:=by omega
   clear h2 h1;go_enter Tryz.func106,Tryz.ntmps106
   go_wp2_with fail
   go_ret;exact ⟨ret_b hfin.out.symm,hB0⟩
  ·have t1:(p.loc != q.loc)=true:=by simp [h2]
   clear h2 h1;go_enter Tryz.func106,Tryz.ntmps106
   go_wp2_with fail
   go_ret;exact ⟨ret_b hfin.out.symm,hB0⟩
theorem xFE (p q:Plc) (A B:Option Addr) (c d:Nat) (w:World) (hx:Slc 2 RPj w A c p.proj) (hy:Slc 2 RPj w B d q.proj):
 Calls Tryz.prog 63 #[.agg #[.int .i64 p.loc,.slice A p.proj.length c],.agg #[.int .i64 q.loc,.slice B q.proj.length d]] w fun e w'=>e = .returned (.bool (decide (p=q)))/\Below w.heap.size w w':=by
 have hB:=bel2 w (.cells #[.int .i64 p.loc,.slice A p.proj.length c] 46) (.cells #[.int .i64 q.loc,.slice B q.proj.length d] 46);by_cases h1:p.proj.length=q.proj.length
 ·have t1:((p.proj.length:Int) == (q.proj.length:Int))=true:=by simp [h1]
  have HC:=aF (xGV p q A B c d _ (hx.keep RPj.keeps hB) (hy.keep RPj.keeps hB))
  have hfin:Hid (isPre p q=decide (p=q)):=aF (by
   obtain ⟨l,ps⟩:=p;obtain ⟨m,qs⟩:=q;simp only [] at h1
   simp [isPre,h1])
  clear hx hy h1;go_enter Tryz.func63,Tryz.ntmps63
  go_wp2_with (go_at_call 106;refine HC.out.mono ?_;rintro e w' ⟨rfl,hb1⟩)
  go_ret;exact ⟨ret_b hfin.out,hB.trans (hb1.mono hB.size)⟩
 ·have t1:((p.proj.length:Int) == (q.proj.length:Int))=false:=by simp;omega
  have hfin:Hid (decide (p=q)=false):=aF (by simp only [decide_eq_false_iff_not];rintro rfl;exact h1 rfl);clear hx hy h1;go_enter Tryz.func63,Tryz.ntmps63
  go_wp2_with fail
  go_ret;exact ⟨ret_b hfin.out.symm,hB⟩
def hasR (n:Int):Nat->List Pj->Bool
 | _,[]=>false
 | k,x :: r=>if n<=k/\x.kind=0 then true else hasR n (k+1) r
theorem xGF (n:Int):∀(ps:List Pj) (k:Nat),hasR n k ps=(ps.drop (n - k).toNat).any isD
 | [],k=>by simp [hasR]
 | x :: r,k=>by
   rw [hasR,xGF n r (k+1)];by_cases h:n<=k
   ·have h0:(n - (k:Int)).toNat=0:=(by omega);have h1:(n - ((k+1:Nat):Int)).toNat=0:=(by omega);rw [h0,h1];by_cases hx:x.kind=0
    ·simp [h,hx,isD]
    ·simp [hx,isD]
   ·rw [aZ (by omega)];obtain ⟨m,hm⟩:∃m,(n - (k:Int)).toNat=m+1:=⟨(n - (k:Int)).toNat - 1,by omega⟩;rw [hm,List.drop_succ_cons];congr 2
    omega
theorem xDO (p:Plc) (n:Int) (A:Option Addr) (c:Nat) (w:World) (hx:Slc 2 RPj w A c p.proj):
 Calls Tryz.prog 102 #[.agg #[.int .i64 p.loc,.slice A p.proj.length c],.int .i64 n] w fun e w'=>e = .returned (.bool (hasD p.proj n))/\Below w.heap.size w w':=by
 obtain ⟨hs,hle,hbig⟩:=hx;have hz:Hid (hasD p.proj n=hasR n 0 (p.proj.drop 0)):=aF (by rw [xGF,hasD];simp);go_enter Tryz.func102,Tryz.ntmps102
 go_wp2
 go_loopw [5] (fun v wr=>∃k:Nat,k<=p.proj.length/\v = .int .i64 k/\wr.cell? ⟨w.heap.size,1,none⟩=some (.slice A p.proj.length c)/\Below w.heap.size w wr/\Hid (hasD p.proj n=hasR n k (p.proj.drop k))) (fun v _=>p.proj.length - (intOf v).toNat)
 case atStart=>exact ⟨0,by omega,rfl,by go_simp,(aX _ _).alloc (aY _) _,hz⟩
 case round=>
  clear hz;obtain ⟨k,hk,rfl,z1,hB,he⟩:=hrel;by_cases hlt:k<p.proj.length
  ·obtain ⟨b,off,rfl,hb,hr⟩:=hs.at_ hlt;have hd:=aF (cS hlt);generalize p.proj[k]=x at hr hd;obtain ⟨g1,g2⟩:=RPj.keeps _ _ _ w.heap.size _ _ _ (aY _) hb hB hr;clear hr hs;go_wp2
   all_goals
    first
    | (go_ret
       exact ⟨ret_b (by rw [he.out,hd.out,hasR];grind),hB⟩)
    | (go_roundw
       case rel=>exact ⟨k+1,by omega,by go_num,z1,hB,aF (by rw [he.out,hd.out,hasR];grind)⟩
       case measure=>simp [intOf];omega)
  ·have hd:p.proj.drop k=[]:=bE (by omega);have hfin:Hid (hasD p.proj n=false):=aF (by rw [he.out,hd,hasR]);clear he hd hs;go_wp2
   go_ret;exact ⟨ret_b hfin.out.symm,hB⟩
end
section
open Go.RowKit Go.Shelf
theorem xDW:∀(ps:List Pj) (x:Pj),chkP (ps ++ [x])=if chkP ps=0 then chkP [x] else chkP ps
 | [],x=>by simp [chkP]
 | y :: ps,x=>by
   have ih:=xDW ps x;rw [List.cons_append,chkP,chkP,ih];grind
theorem xER {l:Int} {ps:List Pj} {x:Pj} (h:chk l (ps ++ [x])=0):chk l ps=0/\(x.kind=0\/x.kind=1)/\0<=x.field:=by
 unfold chk at *;rw [xDW] at h;simp only [bB,cG,chkP] at h;grind
def stepE (ts:List Ty) (q:Int × Int) (x:Pj):Int × Int:=if q.2≠0 then q else match ts[q.1.toNat]? with
 | none=>q
 | some t=>prT t x
theorem xAI {s:Stp} {L:List Stp} (h:L≠[]):lastS (s :: L)=lastS L:=by
 unfold lastS;cases L with
 | nil=>exact absurd rfl h
 | cons a b=>rw [List.getLast?_cons_cons]
theorem xCV (ts:List Ty) (x:Pj):∀(ps:List Pj) (i:Int) (k:Nat),lastS (walkS ts i k (ps ++ [x]))=stepE ts (lastS (walkS ts i k ps)) x
 | [],i,k=>by
   rw [List.nil_append,walkS,walkS];cases h:ts[i.toNat]? with
   | none=>simp [lastS,stepE,h]
   | some t=>
     simp only [];by_cases h2:(prT t x).2=0
     ·rw [bA h2];simp only [walkS];simp [lastS,stepE,h];rw [<- h2]
     ·rw [aZ h2];simp [lastS,stepE,h]
 | y :: ps,i,k=>by
   rw [List.cons_append,walkS,walkS];cases h:ts[i.toNat]? with
   | none=>simp [lastS,stepE,h]
   | some t=>
     simp only [];by_cases h2:(prT t y).2=0
     ·rw [bA h2,bA h2,xAI (tU _ _ _ _),xAI (tU _ _ _ _)];exact xCV ts x ps _ _
     ·rw [aZ h2,aZ h2];simp [lastS,stepE,h2]
theorem xGO {ts:List Ty} {ls:List Lc} {l:Nat} (h:chk l []=0) (hl:l<ls.length):tyOf ts ls l []=(ls[l].type,0):=by
 simp [tyOf,pth,h,lastS,hl,walkS]
theorem xDK {ts:List Ty} {ls:List Lc} {l:Int} {ps:List Pj} {x:Pj} (h:chk l (ps ++ [x])=0) (hl:l<ls.length):tyOf ts ls l (ps ++ [x])=stepE ts (tyOf ts ls l ps) x:=by
 have h0:=(xER h).1;have:=tI h;have h2:ls[l.toNat]?=some ls[l.toNat]:=bD (by omega);simp only [tyOf,pth,h,h0,h2];exact xCV ts x ps _ _
theorem xHW {t:Ty} {x:Pj} (h:(prT t x).2≠0):(prT t x).1=0:=by
 unfold prT at *;grind
theorem xDI (ts:List Ty):∀(ps:List Pj) (i:Int) (k:Nat),(lastS (walkS ts i k ps)).2≠0->(lastS (walkS ts i k ps)).1=0
 | [],i,k=>by simp [walkS,lastS]
 | y :: ps,i,k=>by
   rw [walkS];cases h:ts[i.toNat]? with
   | none=>simp [lastS]
   | some t=>
     simp only [];by_cases h2:(prT t y).2=0
     ·rw [bA h2,xAI (tU _ _ _ _)];exact xDI ts ps _ _
     ·rw [aZ h2];intro h3;simpa [lastS] using xHW h2
theorem xGP {ts:List Ty} {ls:List Lc} {l:Int} {ps:List Pj} (h:(tyOf ts ls l ps).2≠0):(tyOf ts ls l ps).1=0:=by
 unfold tyOf pth at *;split at h
 ·rename_i h2;rw [bA h2];rfl
 ·rename_i h2;rw [aZ h2] at *;cases hx:ls[l.toNat]? with
  | none=>simp [lastS]
  | some x=>
    rw [hx] at h;exact xDI ts ps _ _ h
def refT (ts:List Ty) (i:Int) (x:Pj):List Ty:=if x.kind=0 then ts[i.toNat]?.toList else []
def refsW (ts:List Ty):Int->List Pj->List Ty
 | _,[]=>[]
 | i,x :: r=>refT ts i x ++ match ts[i.toNat]? with
   | none=>[]
   | some t=>refsW ts (prT t x).1 r
theorem xFH (ts:List Ty) (pre r:List Pj) (x:Pj) (i e:Int):fL ts (pre ++ x :: r) ⟨pre.length,i,e⟩=refT ts i x:=by
 unfold fL refT;rw [List.getElem?_append_right (aY _),Nat.sub_self,List.getElem?_cons_zero];simp only [];split
 ·cases ts[i.toNat]? <;> rfl
 ·rfl
theorem xDB (ts:List Ty):∀(ps pre:List Pj) (i:Int),(lastS (walkS ts i pre.length ps)).2=0->refsL ts (pre ++ ps) (walkS ts i pre.length ps)=refsW ts i ps
 | [],pre,i,_=>by simp [walkS,refsL,fL,refsW]
 | x :: r,pre,i,h=>by
   rw [walkS] at h ⊢;rw [refsL,List.flatMap_cons,xFH,refsW];congr 1
   cases ht:ts[i.toNat]? with
   | none=>rfl
   | some t=>
     rw [ht] at h;simp only [] at h ⊢;by_cases h2:(prT t x).2=0
     ·rw [bA h2] at h ⊢;rw [xAI (tU _ _ _ _)] at h;have ih:=xDB ts r (pre ++ [x]) (prT t x).1 (by simpa using h);simpa [refsL] using ih
     ·rw [aZ h2] at h;exact absurd (by simpa [lastS] using h) h2
theorem xCZ (ts:List Ty) (x:Pj):∀(qs:List Pj) (i:Int) (k:Nat),(lastS (walkS ts i k qs)).2=0->refsW ts i (qs ++ [x])=refsW ts i qs ++ refT ts (lastS (walkS ts i k qs)).1 x
 | [],i,k,_=>by
   simp only [List.nil_append,refsW,walkS,lastS];cases ts[i.toNat]? <;> simp
 | y :: qs,i,k,h=>by
   rw [List.cons_append,refsW,refsW];rw [walkS] at h ⊢;cases ht:ts[i.toNat]? with
   | none=>simp [lastS,refT,ht]
   | some t=>
     rw [ht] at h;simp only [] at h ⊢;by_cases h2:(prT t y).2=0
     ·rw [bA h2] at h ⊢;rw [xAI (tU _ _ _ _)] at h ⊢;rw [xCZ ts x qs _ _ h,bM]
     ·rw [aZ h2] at h;exact absurd (by simpa [lastS] using h) h2
theorem xDJ (ts:List Ty):∀(ps:List Pj) (i:Int) (k:Nat),(walkS ts i k ps).any (fun s=>s.err != 0)=((lastS (walkS ts i k ps)).2 != 0)
 | [],i,k=>by simp [walkS,lastS]
 | x :: r,i,k=>by
   rw [walkS,List.any_cons];cases ht:ts[i.toNat]? with
   | none=>simp [lastS]
   | some t=>
     simp only [];by_cases h2:(prT t x).2=0
     ·rw [bA h2,xAI (tU _ _ _ _),xDJ ts r _ _];simp
     ·rw [aZ h2];simp [lastS]
theorem xEH (ts:List Ty) (ls:List Lc) (l:Int) (ps:List Pj):(pth ts ls l ps).any (fun s=>s.err != 0)=((tyOf ts ls l ps).2 != 0):=by
 unfold tyOf pth;split
 ·simp [lastS]
 ·cases ls[l.toNat]? with
  | none=>simp [lastS]
  | some x=>exact xDJ ts ps _ _
theorem xDA {ts:List Ty} {ls:List Lc} {l:Int} {ps:List Pj} (h:(tyOf ts ls l ps).2≠0):refsOf ts ls l ps=([],false):=by
 rw [refsOf,xEH,bA (by simpa using h)]
theorem xDG {ts:List Ty} {ls:List Lc} {l:Nat} {ps:List Pj} (hc:chk l ps=0) (hl:l<ls.length):pth ts ls l ps=walkS ts ls[l].type 0 ps:=by
 unfold pth;rw [aZ (by simpa using hc),bW,bD hl]
theorem xCA {ts:List Ty} {ls:List Lc} {l:Nat} {ps:List Pj} (h:(tyOf ts ls l ps).2=0) (hl:l<ls.length):refsOf ts ls l ps=(refsW ts ls[l].type ps,true):=by
 rw [refsOf,xEH,aZ (by simpa using h),xDG (kE h).1 hl]
 have:=xDB ts ps [] ls[l].type (by
  have h':=h;rw [tyOf,xDG (kE h).1 hl] at h'
  exact h')
 rw [List.nil_append] at this;rw [show ([]:List Pj).length=0 from rfl] at this;rw [this]
theorem xEJ {ts:List Ty} {ls:List Lc} {l:Int} {ps:List Pj} {x:Pj} (h:(tyOf ts ls l (ps ++ [x])).2=0):(tyOf ts ls l ps).2=0:=by
 have hg:=kE h;rw [xDK hg.1 hg.2.2] at h;apply Classical.byContradiction
 intro hc;unfold stepE at h;rw [bA hc] at h;exact hc h
theorem xCB {ts:List Ty} {ls:List Lc} {l:Int} {ps:List Pj} (h:(tyOf ts ls l ps).2=0) (k:Nat):(tyOf ts ls l (ps.take k)).2=0:=by
 by_cases hk:ps.length<=k
 ·rwa [List.take_of_length_le hk]
 ·have h2:=xCB h (k+1);rw [bF (by omega)] at h2;exact xEJ h2
termination_by ps.length - k
theorem xED {ts:List Ty} {ls:List Lc} {l:Int} {ps:List Pj} {x:Pj} (h:(tyOf ts ls l (ps ++ [x])).2=0):(refsOf ts ls l (ps ++ [x])).1=(refsOf ts ls l ps).1 ++ refT ts (tyOf ts ls l ps).1 x:=by
 obtain ⟨hc,hl0,hl⟩:=kE h;obtain ⟨m,rfl⟩:=bG hl0;have hl':m<ls.length:=by omega
 have h0:=xEJ h;rw [xCA h hl',xCA h0 hl'];have h1:tyOf ts ls m ps=lastS (walkS ts ls[m].type 0 ps):=by rw [tyOf,xDG (kE h0).1 hl']
 rw [h1] at h0 ⊢;exact xCZ ts x ps _ _ h0
theorem xFG (ts:List Ty) (ls:List Lc) (l:Int):(refsOf ts ls l []).1=[]:=by
 by_cases h:(tyOf ts ls l []).2=0
 ·obtain ⟨hc,hl0,hl⟩:=kE h;obtain ⟨m,rfl⟩:=bG hl0;rw [xCA h (by omega),refsW]
 ·rw [xDA h]
end
section
open Go Go.RowKit
theorem xEM (ts:List Ty) (hok:TyOk ts):∀(m:Nat) (i:Int),i.toNat<m->∀(A:Option Addr) (c:Nat) (w:World),Slc 5 RTy w A c ts->
 Calls Tryz.prog 144 #[.slice A ts.length c,.int .i64 i] w fun e' w'=>e' = .returned (.bool (copB ts i))/\w'=w
 | 0,_,h=>absurd h (by omega)
 | m+1,i,hm=>by
   intro A c w hs;have hle:=hs.le;have hbig:=hs.big;have HS:=aF hs;have HREC:=aF (fun (f:Int) (hf:f.toNat<m)=>xEM ts hok m f hf A c w hs);clear hs;by_cases hr:0<=i/\i<(ts.length:Int)
   case neg=>
    rw [vW (by omega)];go_enter Tryz.func144,Tryz.ntmps144
    go_wp2_with fail
    all_goals first
     | (exfalso;omega)
     | (go_ret;exact ⟨rfl,rfl⟩)
   case pos=>
   obtain ⟨k,rfl⟩:=bG hr.1;have hlt:k<ts.length:=by omega
   obtain ⟨b,o,rfl,hb,hx⟩:=HS.out.sl.at_ hlt;have HQ:=aF (tD hok hlt);have HOKK:=aF (hok k hlt);obtain ⟨t,ht⟩:∃t,ts[k]=t:=⟨_,rfl⟩;rw [ht] at HQ HOKK hx;generalize copB ts (k:Int)=q at HQ ⊢;obtain ⟨r1,r2,r3,r4,A2,c2,r5,r6,r7,r8⟩:=hx;have HFL:Hid (Slc 1 RInt w A2 c2 t.flds):=aF ⟨r8,r6,r7⟩;have hk1:k<m+1:=by simpa using hm
   have e0:¬(k:Int)<0:=by omega
   have e1:¬(ts.length:Int)<=(k:Int):=by omega
   clear r8 ht hr hm;go_enter Tryz.func144,Tryz.ntmps144
   go_wp2_with fail
   go_loop [5] (fun v=>∃j:Nat,j<=t.flds.length/\v = .int .i64 j/\Hid (∀u,(t.flds.take j).all (copB ts)=true/\(u=j->True))) (fun v=>t.flds.length - (intOf v).toNat)
   case atStart=>exact ⟨0,by omega,rfl,aF (fun _=>⟨by simp,fun _=>trivial⟩)⟩
   case round=>
    obtain ⟨j,hj,rfl,HJ⟩:=hrel;by_cases hjl:j<t.flds.length
    ·obtain ⟨b3,o3,rfl,hb3,hy⟩:=HFL.out.sl.at_ hjl;have HTK:Hid ((t.flds.take (j+1)).all (copB ts)=((t.flds.take j).all (copB ts) && copB ts t.flds[j])):=aF (by rw [bF hjl,List.all_append];simp);have HMEM:=aF (bN hjl);obtain ⟨y,hyy⟩:∃y,t.flds[j]=y:=⟨_,rfl⟩;rw [hyy] at hy HTK HMEM;have y0:w.cell? ⟨b3,o3+j,none⟩=some (.int .i64 y):=(by simpa [RInt] using hy);have HC:=aF (HREC.out y (by have:=HOKK.out.2 y HMEM.out;omega))
     have HF:Hid (copB ts y=false->q=false):=aF (fun h=>by
      rw [HQ.out,aZ (fun h3=>by have:=(HOKK.out.1 h3).2.2;rw [this] at hjl;simp at hjl)];rw [Bool.eq_false_iff,ne_eq,List.all_eq_true]
      exact fun h0=>by have:=h0 y HMEM.out;rw [h] at this;cases this)
     clear hy hyy;cases hcy:copB ts y
     ·rw [hcy] at HC;have HF':=aF (HF.out hcy);clear HF HJ hcy;go_wp2_with (go_at_call 144;refine HC.out.mono ?_;rintro e' w1 ⟨rfl,hw⟩;obtain rfl:=hw.symm)
      go_ret;exact ⟨by rw [HF'.out];rfl,rfl⟩
     ·rw [hcy] at HC;have HJ':Hid (∀u,(t.flds.take (j+1)).all (copB ts)=true/\(u=j+1->True)):=aF (fun u=>⟨by rw [HTK.out,(HJ.out 0).1,hcy];rfl,fun _=>trivial⟩);clear HF HJ hcy;go_wp2_with (go_at_call 144;refine HC.out.mono ?_;rintro e' w1 ⟨rfl,hw⟩;obtain rfl:=hw.symm)
      go_round
      case rel=>exact ⟨j+1,by omega,by go_num,HJ'⟩
      case measure=>simp [intOf];omega
    ·have hall:t.flds.all (copB ts)=true:=by have:=(HJ.out 0).1;rwa [List.take_of_length_le (by omega)] at this
     by_cases h3:t.kind=3
     ·have HF:Hid (q = !t.mu):=aF (by rw [HQ.out,bA h3]);have e5:(t.kind != 3)=false:=by simp [h3]
      clear HJ hall HQ;go_wp2_with fail
      go_ret;exact ⟨by rw [HF.out];rfl,rfl⟩
     ·have HF:Hid (q=true):=aF (by rw [HQ.out,aZ h3,hall]);have e5:(t.kind != 3)=true:=by simp [h3]
      clear HJ hall HQ;go_wp2_with fail
      go_ret;exact ⟨by rw [HF.out];rfl,rfl⟩
theorem xFC (l:List (Int × Int)) (n:Int) (A:Option Addr) (c:Nat) (w:World) (hs:Slc 2 RPr w A c l):
 Calls Tryz.prog 94 #[.slice A l.length c,.int .i64 n] w fun e' w'=>e' = .returned (.int .i64 (pairsC n l))/\w'=w:=by
 have hle:=hs.le;have hbig:=hs.big;unfold pairsC;by_cases h0:65535<l.length
 ·rw [bA h0];clear hs;go_enter Tryz.func94,Tryz.ntmps94
  go_wp2_with fail
  go_ret;exact ⟨rfl,rfl⟩
 rw [aZ h0];obtain ⟨R,hR⟩:∃R,pairsE n none l=R:=⟨_,rfl⟩;rw [hR];have HR:=aF hR;have HS:=aF hs;clear hR hs;go_enter Tryz.func94,Tryz.ntmps94
 go_wp2_with fail
 go_loop [5] (fun v=>∃k:Nat,k<=l.length/\v = .int .i64 k/\Hid (R=pairsE n (prevP l k) (l.drop k))) (fun v=>l.length - (intOf v).toNat)
 case atStart=>exact ⟨0,by omega,rfl,aF HR.out.symm⟩
 case round=>
  obtain ⟨k,hk,rfl,hr⟩:=hrel;by_cases hlt:k<l.length
  ·have hd:=cS hlt;have hsl:=HS.out.sl;obtain ⟨b,o,rfl,hb,hx⟩:=hsl.at_ hlt;have HP:Hid (prevP l (k+1)=some l[k]):=aF (by unfold prevP;rw [aZ (by omega)];simp [hlt])
   have HQ:Hid (∀j,k=j+1->∃q,prevP l k=some q/\RPr w w.heap.size b (o+j * 2) q):=aF (fun j hj=>by
    obtain ⟨b',o',hbo,_,hz⟩:=hsl.at_ (show j<l.length by omega);obtain ⟨rfl,rfl⟩:b=b'/\o=o':=by simpa using hbo
    exact ⟨l[j],by unfold prevP;rw [aZ (by omega),show k - 1=j by omega];exact bD (by omega),hz⟩)
   obtain ⟨p,hp⟩:∃p,l[k]=p:=⟨_,rfl⟩;rw [hp] at hd hx HP;obtain ⟨x0,x1⟩:=hx;have HN:Hid (R=if pairE n (prevP l k) p=0 then pairsE n (some p) (l.drop (k+1)) else pairE n (prevP l k) p):=aF (by rw [hr.out,hd,gZ]);obtain ⟨p1,p2⟩:=p;simp only at x0 x1;clear hd hr hsl hp;by_cases hrg:p1<0\/p2<0\/n<=p1\/n<=p2
   ·have HF:Hid (R=3):=aF (by rw [HN.out,mV hrg];rfl);clear HN;go_wp2_with fail
    all_goals first
     | (go_ret;exact ⟨by rw [HF.out];rfl,rfl⟩)
     | (exfalso;omega)
   have e1:¬p1<0:=by omega
   have e2:¬n<=p1:=by omega
   have e4:¬p2<0:=by omega
   have e5:¬n<=p2:=by omega
   by_cases hsm:p1=p2
   ·have HF:Hid (R=2):=aF (by rw [HN.out,pO hrg hsm];rfl);have e3:(p1 == p2)=true:=by simp [hsm]
    clear HN hrg;go_wp2_with fail
    all_goals first
     | (go_ret;exact ⟨by rw [HF.out];rfl,rfl⟩)
     | (exfalso;omega)
   have e3:(p1 == p2)=false:=by simp [hsm]
   rcases (show k=0\/∃j,k=j+1 from by cases k;exact .inl rfl;exact .inr ⟨_,rfl⟩) with rfl | ⟨j,rfl⟩
   ·have HF:Hid (R=pairsE n (prevP l 1) (l.drop 1)):=aF (by rw [HN.out,show prevP l 0=none from rfl,pP hrg hsm,bA rfl,HP.out]);clear HN hrg hsm;simp only [Nat.zero_mul,Nat.add_zero] at x0 x1;go_wp2_with fail
    go_round
    case rel=>exact ⟨1,by omega,by go_num,HF⟩
    case measure=>simp [intOf];omega
   ·obtain ⟨q,hq,q0,q1⟩:=HQ.out j rfl
    have HF:Hid (R=if 0<=cmp2 q (p1,p2) then 21 else pairsE n (prevP l (j+1+1)) (l.drop (j+1+1))):=aF (by
     rw [HN.out,hq,pN hrg hsm,HP.out]
     split <;> simp)
    have hwk:IntKind.i64.wrap (j:Int)=(j:Int):=by rw [IntKind.wrap_i64];omega
    have hj1:(j:Int)<(l.length:Int):=(by omega);obtain ⟨qa,qb⟩:=q;simp only at q0 q1;have hge:=yR (p1,p2) (qa,qb);simp only at hge;by_cases hcm:0<=cmp2 (qa,qb) (p1,p2)
    ·have HF':Hid (R=21):=aF (by rw [HF.out,bA hcm]);have hlex:=hge.1 hcm;clear HF HN hrg hsm hq hge hcm;go_wp2_with fail
     all_goals first
      | (go_ret;exact ⟨by rw [HF'.out];rfl,rfl⟩)
      | (exfalso;grind)
    ·have HF':Hid (R=pairsE n (prevP l (j+1+1)) (l.drop (j+1+1))):=aF (by rw [HF.out,aZ hcm]);have hlex:=fun h=>hcm (hge.2 h)
     clear HF HN hrg hsm hq hge hcm;go_wp2_with fail
     all_goals first
      | (go_round
         case rel=>exact ⟨j+1+1,by omega,by go_num,HF'⟩
         case measure=>simp [intOf];omega)
      | (exfalso;grind)
  ·have HN:Hid (R=0):=aF (by rw [hr.out,bE (by omega)];rfl);clear hr;go_wp2_with fail
   go_ret;exact ⟨by rw [HN.out];rfl,rfl⟩
end
section
open Go.RowKit Go.Shelf
theorem xHR (A B C:Option Addr) (nt c nl d np e:Nat) (l q:Int) (w:World) (hq:q≠0)
 (hCk:Hid (Calls Tryz.prog 53 #[.agg #[.int .i64 l,.slice C np e]] (w.alloc (.cells #[.int .i64 l,.slice C np e] 46)) fun e' w'=>e' = .returned (.int .i64 q)/\Below (w.alloc (.cells #[.int .i64 l,.slice C np e] 46)).heap.size (w.alloc (.cells #[.int .i64 l,.slice C np e] 46)) w')):
 Calls Tryz.prog 139 #[.slice A nt c,.slice B nl d,.agg #[.int .i64 l,.slice C np e]] w fun e' w'=>e' = .returned (.tuple #[.int .i64 0,.int .i64 q])/\Below w.heap.size w w':=by
 have hB0:=aF (((aX _ _).alloc (aY _) _:Below w.heap.size w (w.alloc (.cells #[.int .i64 l,.slice C np e] 46))));have hq2:(q != 0)=true:=by simp [hq]
 clear hq;go_enter Tryz.func139,Tryz.ntmps139
 go_wp2_with (go_at_call 53;refine hCk.out.mono ?_;rintro e' w1 ⟨rfl,hb1⟩)
 exact bodyPost_ret (by simp [results,Tryz.results139,go_sem] <;> rfl) rfl ⟨rfl,hB0.out.trans (hb1.mono hB0.out.size)⟩
theorem xHQ (A B C:Option Addr) (nt c nl d np e m:Nat) (w:World) (hl:nl<=m)
 (hCk:Hid (Calls Tryz.prog 53 #[.agg #[.int .i64 m,.slice C np e]] (w.alloc (.cells #[.int .i64 m,.slice C np e] 46)) fun e' w'=>e' = .returned (.int .i64 0)/\Below (w.alloc (.cells #[.int .i64 m,.slice C np e] 46)).heap.size (w.alloc (.cells #[.int .i64 m,.slice C np e] 46)) w')):
 Calls Tryz.prog 139 #[.slice A nt c,.slice B nl d,.agg #[.int .i64 m,.slice C np e]] w fun e' w'=>e' = .returned (.tuple #[.int .i64 0,.int .i64 3])/\Below w.heap.size w w':=by
 have hB0:=aF (((aX _ _).alloc (aY _) _:Below w.heap.size w (w.alloc (.cells #[.int .i64 m,.slice C np e] 46))));have z1:(w.alloc (.cells #[.int .i64 m,.slice C np e] 46)).cell? ⟨w.heap.size,0,none⟩=some (.int .i64 m):=by go_simp
 have hq2:decide ((nl:Int)<=(m:Int))=true:=by simp;omega
 go_enter Tryz.func139,Tryz.ntmps139
 go_wp2_with (go_at_call 53;refine hCk.out.mono ?_;rintro e' w1 ⟨rfl,hb1⟩;have z1':=cJ hb1 z1)
 exact bodyPost_ret (by simp [results,Tryz.results139,go_sem] <;> rfl) rfl ⟨rfl,hB0.out.trans (hb1.mono hB0.out.size)⟩
theorem xHP (A C:Option Addr) (nt c nl d e m b off:Nat) (x:Lc) (w:World) (hl:m<nl) (hr2:w.cell? ⟨b,off+m * 2+1,none⟩=some (.int .i64 x.type))
 (hCk:Hid (Calls Tryz.prog 53 #[.agg #[.int .i64 m,.slice C 0 e]] (w.alloc (.cells #[.int .i64 m,.slice C 0 e] 46)) fun e' w'=>e' = .returned (.int .i64 0)/\Below (w.alloc (.cells #[.int .i64 m,.slice C 0 e] 46)).heap.size (w.alloc (.cells #[.int .i64 m,.slice C 0 e] 46)) w')):
 Calls Tryz.prog 139 #[.slice A nt c,.slice (some ⟨b,off,none⟩) nl d,.agg #[.int .i64 m,.slice C 0 e]] w fun e' w'=>e' = .returned (.tuple #[.int .i64 x.type,.int .i64 0])/\Below w.heap.size w w':=by
 have hB0:=aF (((aX _ _).alloc (aY _) _:Below w.heap.size w (w.alloc (.cells #[.int .i64 m,.slice C 0 e] 46))));have z1:(w.alloc (.cells #[.int .i64 m,.slice C 0 e] 46)).cell? ⟨w.heap.size,0,none⟩=some (.int .i64 m):=by go_simp
 have z2:(w.alloc (.cells #[.int .i64 m,.slice C 0 e] 46)).cell? ⟨w.heap.size,1,none⟩=some (.slice C 0 e):=by go_simp
 have hq2:decide ((nl:Int)<=(m:Int))=false:=by simp;omega
 go_enter Tryz.func139,Tryz.ntmps139
 go_wp2_with (go_at_call 53;refine hCk.out.mono ?_;rintro e' w1 ⟨rfl,hb1⟩;have hr2':=cJ (hB0.out.trans (hb1.mono hB0.out.size)) hr2;have z1':=cJ hb1 z1;have z2':=cJ hb1 z2)
 exact bodyPost_ret (by simp [results,Tryz.results139,go_sem] <;> rfl) rfl ⟨rfl,hB0.out.trans (hb1.mono hB0.out.size)⟩
theorem xID {t:Ty} {x:Pj} {f:Nat} (hf:x.field=f) (h:f<t.flds.length):prT t x=if x.kind=0/\t.kind=3 then (t.elem,0) else if x.kind=1/\t.kind=4 then (t.flds[f],0) else (0,22):=by
 unfold prT;rw [hf,bA (show (f:Int)<t.flds.length by omega),bW,List.getD_eq_getElem?_getD,bD h];rfl
theorem xHV {t:Ty} {x:Pj} {f:Nat} (hf:x.field=f) (h:¬f<t.flds.length):prT t x=if x.kind=0/\t.kind=3 then (t.elem,0) else if x.kind=1/\t.kind=4 then (0,3) else (0,22):=by
 unfold prT;rw [hf,aZ (show ¬(f:Int)<t.flds.length by omega)]
theorem xGS (A B C:Option Addr) (nt c nl d e m k:Nat) (i q:Int) (R:Int × Int) (w:World) (hl:m<nl) (hk:k+1<=32) (hke:k+1<=e) (he:e<=9223372036854775807)
 (hCk:Hid (Calls Tryz.prog 53 #[.agg #[.int .i64 m,.slice C (k+1) e]] (w.alloc (.cells #[.int .i64 m,.slice C (k+1) e] 46)) fun e' w'=>e' = .returned (.int .i64 0)/\Below (w.alloc (.cells #[.int .i64 m,.slice C (k+1) e] 46)).heap.size (w.alloc (.cells #[.int .i64 m,.slice C (k+1) e] 46)) w'))
 (hRec:Hid (∀W,Below w.heap.size w W->Calls Tryz.prog 139 #[.slice A nt c,.slice B nl d,.agg #[.int .i64 m,.slice C k e]] W fun e' w'=>e' = .returned (.tuple #[.int .i64 i,.int .i64 q])/\Below W.heap.size W w'))
 (hbad:q≠0->R=(0,q))
 (hgood:q=0->∃(j bT oT bC oC:Nat) (t:Ty) (x:Pj),i=(j:Int)/\j<nt/\A=some ⟨bT,oT,none⟩/\bT<w.heap.size/\RTy w w.heap.size bT (oT+j * 5) t/\C=some ⟨bC,oC,none⟩/\bC<w.heap.size/\RPj w w.heap.size bC (oC+k * 2) x/\R=prT t x/\0<=x.field):
 Calls Tryz.prog 139 #[.slice A nt c,.slice B nl d,.agg #[.int .i64 m,.slice C (k+1) e]] w fun e' w'=>e' = .returned (.tuple #[.int .i64 R.1,.int .i64 R.2])/\Below w.heap.size w w':=by
 have hB0:=aF (((aX _ _).alloc (aY _) _:Below w.heap.size w (w.alloc (.cells #[.int .i64 m,.slice C (k+1) e] 46))));have z1:(w.alloc (.cells #[.int .i64 m,.slice C (k+1) e] 46)).cell? ⟨w.heap.size,0,none⟩=some (.int .i64 m):=by go_simp
 have z2:(w.alloc (.cells #[.int .i64 m,.slice C (k+1) e] 46)).cell? ⟨w.heap.size,1,none⟩=some (.slice C (k+1) e):=by go_simp
 have hq2:decide ((nl:Int)<=(m:Int))=false:=by simp;omega
 go_enter Tryz.func139,Tryz.ntmps139
 go_wp2_with (go_at_call 53;refine hCk.out.mono ?_;rintro e' w1 ⟨rfl,hb1⟩;have z1':=cJ hb1 z1;have z2':=cJ hb1 z2)
 have hwk:IntKind.i64.wrap (k:Int)=(k:Int):=by rw [IntKind.wrap_i64];omega
 have hB1:Below w.heap.size w w1:=hB0.out.trans (hb1.mono hB0.out.size);clear z1 z2 hb1 hB0 hCk;refine gT (S:=fun X=>X.cell? ⟨w.heap.size,0,none⟩=some (.int .i64 m)/\X.cell? ⟨w.heap.size,1,none⟩=some (.slice C (k+1) e)) (t:=16) (by kernel_rfl) ?_;have hS:w1.drew.cell? ⟨w.heap.size,0,none⟩=some (.int .i64 m)/\w1.drew.cell? ⟨w.heap.size,1,none⟩=some (.slice C (k+1) e):=⟨z1',z2'⟩;refine dI (i:=0) (v:=?tv0) rfl (by kernel_rfl) (by kernel_rfl) (by kernel_rfl) (by kernel_rfl) (fun _ _ _ h=>h) (Or.inl ⟨by rfl,?ty0⟩) hS ?tr0
 case ty0=>
  rintro X ⟨s1,s2⟩;simp only [aL];go_simp;rfl
 simp only [aL,Act.put,aK];refine dI (i:=1) (v:=?tv1) rfl (by kernel_rfl) (by kernel_rfl) (by kernel_rfl) (by kernel_rfl) (fun _ _ _ h=>h) (Or.inl ⟨by rfl,?ty1⟩) hS ?tr1
 case ty1=>
  rintro X ⟨s1,s2⟩;simp only [aL];go_simp;rfl
 simp only [aL,Act.put,aK];refine dI (i:=2) (v:=?tv2) rfl (by kernel_rfl) (by kernel_rfl) (by kernel_rfl) (by kernel_rfl) (fun _ _ _ h=>h) (Or.inl ⟨by rfl,?ty2⟩) hS ?tr2
 case ty2=>
  rintro X ⟨s1,s2⟩;simp only [aL];go_simp;rfl
 simp only [aL,Act.put,aK];refine dI (i:=3) (v:=?tv3) rfl (by kernel_rfl) (by kernel_rfl) (by kernel_rfl) (by kernel_rfl) (fun _ _ _ h=>h) (Or.inl ⟨by rfl,?ty3⟩) hS ?tr3
 case ty3=>
  rintro X ⟨s1,s2⟩;simp only [aL];go_simp;rfl
 simp only [aL,Act.put,aK];refine dI (i:=4) (v:=?tv4) rfl (by kernel_rfl) (by kernel_rfl) (by kernel_rfl) (by kernel_rfl) (fun _ _ _ h=>h) (Or.inl ⟨by rfl,?ty4⟩) hS ?tr4
 case ty4=>
  rintro X ⟨s1,s2⟩;simp only [aL];go_simp;rfl
 simp only [aL,Act.put,aK];refine dI (i:=5) (v:=?tv5) rfl (by kernel_rfl) (by kernel_rfl) (by kernel_rfl) (by kernel_rfl) (fun _ _ _ h=>h) (Or.inl ⟨by rfl,?ty5⟩) hS ?tr5
 case ty5=>
  rintro X ⟨s1,s2⟩;simp only [aL];go_simp;rfl
 simp only [aL,Act.put,aK];refine dI (i:=6) (v:=?tv6) rfl (by kernel_rfl) (by kernel_rfl) (by kernel_rfl) (by kernel_rfl) (fun _ _ _ h=>h) (Or.inl ⟨by rfl,?ty6⟩) hS ?tr6
 case ty6=>
  rintro X ⟨s1,s2⟩;simp only [aL];go_simp;rfl
 simp only [aL,Act.put,aK];refine dI (i:=7) (v:= .int .i64 (k:Int)) rfl (by kernel_rfl) (by kernel_rfl) (by kernel_rfl) (by kernel_rfl) (fun _ _ _ h=>h) (Or.inl ⟨by rfl,?ty7⟩) hS ?tr7
 case ty7=>
  rintro X ⟨s1,s2⟩;simp only [aL];go_simp;try (first | rfl | (rw [hwk]) | simp [hwk])
 simp only [aL,Act.put,aK];refine dI (i:=8) (v:= .slice C k e) rfl (by kernel_rfl) (by kernel_rfl) (by kernel_rfl) (by kernel_rfl) (fun _ _ _ h=>h) (Or.inl ⟨by rfl,?ty8⟩) hS ?tr8
 case ty8=>
  rintro X ⟨s1,s2⟩;simp only [aL];go_simp;(try simp only [hwk]);first | rfl | (intro h;omega) | (rw [bA (by omega)];simp)
 simp only [aL,Act.put,aK];refine dI (i:=9) (v:=?tv9) rfl (by kernel_rfl) (by kernel_rfl) (by kernel_rfl) (by kernel_rfl) (fun _ _ _ h=>h) (Or.inl ⟨by rfl,?ty9⟩) hS ?tr9
 case ty9=>
  rintro X ⟨s1,s2⟩;simp only [aL];go_simp;rfl
 simp only [aL,Act.put,aK];refine dV (i:=10) (by kernel_rfl) rfl (fun K1 hK1=>?_);simp only [aL,Act.put,aK];rw [bA (by rfl)];go_simp;refine (hRec.out _ hB1.drew).mono ?_;rintro e' w2 ⟨rfl,hb2⟩;have hS2:w2.cell? ⟨w.heap.size,0,none⟩=some (.int .i64 m)/\w2.cell? ⟨w.heap.size,1,none⟩=some (.slice C (k+1) e):=⟨cJ hb2 hS.1,cJ hb2 hS.2⟩;refine hK1.out _ _ (fun _=>hS2) ?_;refine dI (i:=11) (v:=?tv11) rfl (by kernel_rfl) (by kernel_rfl) (by kernel_rfl) (by kernel_rfl) (fun _ _ _ h=>h) (Or.inl ⟨by rfl,?ty11⟩) hS2 ?tr11
 case ty11=>
  rintro X ⟨s1,s2⟩;simp only [aL];go_simp;rfl
 simp only [aL,Act.put,aK];refine dI (i:=12) (v:=?tv12) rfl (by kernel_rfl) (by kernel_rfl) (by kernel_rfl) (by kernel_rfl) (fun _ _ _ h=>h) (Or.inl ⟨by rfl,?ty12⟩) hS2 ?tr12
 case ty12=>
  rintro X ⟨s1,s2⟩;simp only [aL];go_simp;rfl
 simp only [aL,Act.put,aK];refine dI (i:=13) (v:=?tv13) rfl (by kernel_rfl) (by kernel_rfl) (by kernel_rfl) (by kernel_rfl) (fun _ _ _ h=>h) (Or.inl ⟨by rfl,?ty13⟩) hS2 ?tr13
 case ty13=>
  rintro X ⟨s1,s2⟩;simp only [aL];go_simp;rfl
 simp only [aL,Act.put,aK];refine dI (i:=14) (v:=?tv14) rfl (by kernel_rfl) (by kernel_rfl) (by kernel_rfl) (by kernel_rfl) (fun _ _ _ h=>h) (Or.inl ⟨by rfl,?ty14⟩) hS2 ?tr14
 case ty14=>
  rintro X ⟨s1,s2⟩;simp only [aL];go_simp;rfl
 simp only [aL,Act.put,aK];refine dI (i:=15) (v:=?tv15) rfl (by kernel_rfl) (by kernel_rfl) (by kernel_rfl) (by kernel_rfl) (fun _ _ _ h=>h) (Or.inl ⟨by rfl,?ty15⟩) hS2 ?tr15
 case ty15=>
  rintro X ⟨s1,s2⟩;simp only [aL];go_simp;rfl
 simp only [aL,Act.put,aK];refine fI (by kernel_rfl) ?_ _;have hB2:Below w.heap.size w w2:=hB1.drew.trans (hb2.mono hB1.drew.size);obtain ⟨y1,y2⟩:=hS2;clear hRec z1' z2' hS hb2 hK1;by_cases hq0:q=0
 ·subst hq0;clear hbad;obtain ⟨j,bT,oT,bC,oC,t,x,rfl,hj,rfl,hbT,hrT,rfl,hbC,hrC,hR,hxf⟩:=hgood rfl;obtain ⟨f,hf⟩:=bG hxf;obtain ⟨r1,r2,r3,r4,A2,c2,r5,r6,r7,r8⟩:=RTy.keeps _ _ _ w.heap.size _ _ _ (aY _) hbT hB2 hrT;obtain ⟨g1,g2⟩:=RPj.keeps _ _ _ w.heap.size _ _ _ (aY _) hbC hB2 hrC;rw [hf] at g2;have hs2:=hB2.size;have hlw:=cD _ _ y1;have hlt1:=cY (show w.heap.size<w2.heap.size from hlw);have hlt2':bT<w2.heap.size:=by omega
  have hlt3':bC<w2.heap.size:=by omega
  have hlt2:=cY hlt2';have hlt3:=cY hlt3';clear hrT hrC hgood hxf;by_cases hff:f<t.flds.length
  ·obtain ⟨b3,o3,rfl,hb3,r9⟩:=r8.at_ hff;have hP:=aF (hR.trans (xID hf hff));have hd:¬((f:Int) ≥ t.flds.length):=by omega
   unfold RInt at r9;generalize t.flds[f]=y at *;have hlt4':b3<w2.heap.size:=by omega
   have hlt4:=cY hlt4';rw [Nat.mul_one] at r9;clear hR hf r8;go_wp2
   all_goals
    refine bodyPost_ret (by simp [results,Tryz.results139,go_sem] <;> rfl) rfl ⟨?_,?_⟩
   all_goals
    first
    | (rw [hP.out];grind)
    | exact aH
  ·have hP:=aF (hR.trans (xHV hf hff));have hd:(f:Int) ≥ t.flds.length:=by omega
   clear hR hf r8;go_wp2
   all_goals
    refine bodyPost_ret (by simp [results,Tryz.results139,go_sem] <;> rfl) rfl ⟨?_,?_⟩
   all_goals
    first
    | (rw [hP.out];grind)
    | exact aH
 ·have hR:=aF (hbad hq0);have hq:(q != 0)=true:=by simp [hq0]
  clear hbad hgood hq0;go_wp2
  exact bodyPost_ret (by simp [results,Tryz.results139,go_sem] <;> rfl) rfl ⟨by rw [hR.out],hB2⟩
theorem xCN (ts:List Ty) (ls:List Lc) (l:Int):∀(n:Nat) (ps:List Pj),ps.length=n->∀(A B C:Option Addr) (c d e:Nat) (w:World),Slc 5 RTy w A c ts->Slc 2 RLc w B d ls->Slc 2 RPj w C e ps->Okay ts ls->
 Calls Tryz.prog 139 #[.slice A ts.length c,.slice B ls.length d,.agg #[.int .i64 l,.slice C ps.length e]] w fun e' w'=>e' = .returned (.tuple #[.int .i64 (tyOf ts ls l ps).1,.int .i64 (tyOf ts ls l ps).2])/\Below w.heap.size w w'
 | n,ps,hn,A,B,C,c,d,e,w,hts,hls,hps,hok=>by
   have hCk:=aF (pG l C e ps (w.alloc (.cells #[.int .i64 l,.slice C ps.length e] 46)) (hps.keep RPj.keeps ((aX _ _).alloc (aY _) _)));by_cases hk:chk l ps=0
   ·obtain ⟨hl0,hp32⟩:=tI hk;rw [hk] at hCk;obtain ⟨m,rfl⟩:=bG hl0;by_cases hl:m<ls.length
    ·match n,hn with
     | 0,hn=>
       have hps0:ps=[]:=bV hn;subst hps0;obtain ⟨b,off,rfl,hb,hr⟩:=hls.sl.at_ hl;rw [xGO hk hl];exact xHP A C ts.length c ls.length d e m b off ls[m] w hl hr.2 hCk
     | k+1,hn=>
       obtain ⟨qs,x,rfl⟩:∃qs x,ps=qs ++ [x]:=⟨ps.dropLast,ps.getLast (by intro h;simp [h] at hn),(List.dropLast_concat_getLast _).symm⟩;have hqs:qs.length=k:=(by simpa using hn);have hlen:(qs ++ [x]).length=k+1:=hn;rw [xDK hk (by omega)];have hle:=hps.le;have hbig:=hps.big;rw [hlen] at hCk hle hp32 ⊢
       have hqq:Slc 2 RPj w C e qs:=by
        have h:=hps.takeN k;rwa [List.take_left' hqs] at h
       obtain ⟨hx0,hx1,hx2⟩:=xER hk;refine xGS A B C ts.length c ls.length d e m k (tyOf ts ls m qs).1 (tyOf ts ls m qs).2 _ w hl hp32 hle hbig hCk (aF (fun W hW=>?_)) (fun hq=>?_) (fun hq=>?_)
       ·have h:=xCN ts ls m k qs hqs A B C c d e W (hts.keep RTy.keeps hW) (hls.keep RLc.keeps hW) (hqq.keep RPj.keeps hW) hok;rwa [hqs] at h
       ·have h:=xGP hq;unfold stepE;rw [bA hq];exact Prod.ext h rfl
       ·obtain ⟨h1,h2⟩:=fZ hok hq;obtain ⟨j,hj⟩:=bG h1;have hj2:j<ts.length:=(by omega);obtain ⟨bT,oT,hA,hbT,hrT⟩:=hts.sl.at_ hj2;obtain ⟨bC,oC,hC,hbC,hrC⟩:=hps.sl.at_ (show k<(qs ++ [x]).length by omega)
        have hxk:(qs ++ [x])[k]'(by omega)=x:=by
         subst hqs;simp
        rw [hxk] at hrC;refine ⟨j,bT,oT,bC,oC,ts[j],x,hj,hj2,hA,hbT,hrT,hC,hbC,hrC,?_,hx2⟩;unfold stepE;rw [aZ (by omega),hj,bW,bD hj2]
    ·rw [tV hk (by omega)];exact xHQ A B C ts.length c ls.length d ps.length e m w (by omega) hCk
   ·rw [tW hk];exact xHR A B C ts.length c ls.length d ps.length e l _ w hk hCk
end
section
open Go Go.RowKit
theorem alF (w:World) (o:Obj):Below w.heap.size w (w.alloc o):=(aX _ _).alloc (aY _) _
theorem xCK (l:List ByteArray) (s:ByteArray):sumN (l ++ [s])=sumN l+(1+szN s):=by simp [sumN]
theorem xIN (w:World) (x:ByteArray):∀j u,[Value.string x][j]?=some u->(w.alloc (.cells #[.string x] 9)).cell? ((⟨w.heap.size,0,none⟩:Addr).add j)=some u:=fun j u hj=>by
 rw [add0];exact rD w [.string x] 9 j u hj
theorem xIM (x:ByteArray):∀u∈[Value.string x],u.oneCell'=true:=fun u hu=>by simp at hu;subst hu;rfl
end
section
open Go.RowKit Go.Shelf
theorem xDM (ts:List Ty) (ls:List Lc) (l:Int) (ps:List Pj) (A B C:Option Addr) (c d e:Nat) (w:World) (hts:Slc 5 RTy w A c ts) (hls:Slc 2 RLc w B d ls) (hps:Slc 2 RPj w C e ps) (hok:Okay ts ls) (hty:(tyOf ts ls l ps).2=0):
 Calls Tryz.prog 169 #[.slice A ts.length c,.slice B ls.length d,.agg #[.int .i64 l,.slice C ps.length e]] w fun e' w'=>∃A' c',e' = .returned (.slice A' (refsOf ts ls l ps).1.length c')/\Slc 5 RTy w' A' c' (refsOf ts ls l ps).1/\Below w.heap.size w w':=by
 have HT:=aF hty;have HOK:=aF hok;have HLS:=aF hls;have HPS:=aF hps;have HTS:=aF hts;have hp32:=(tI (kE hty).1).2;have hple:=hps.le;have hpbig:=hps.big;have htle:=hts.le;have htbig:=hts.big;have hfin:Hid (refsOf ts ls l (ps.take ps.length)=refsOf ts ls l ps):=aF (by rw [cA]);clear hts hls hps hok hty;obtain ⟨i0,hi,hz0,hz1,hz2⟩:=info_parts zP;go_enter Tryz.func169,Tryz.ntmps169
 go_wp2
 go_loopw [7,8] (fun v i wr=>∃k:Nat,k<=ps.length/\i = .int .i64 k/\wr.cell? ⟨w.heap.size,0,none⟩=some (.int .i64 l)/\wr.cell? ⟨w.heap.size,1,none⟩=some (.slice C ps.length e)/\Below w.heap.size w wr/\∃ys:List TH,wr.ownsRow (w.heap.size+1) 81 5 v ys.length (ys.flatMap gJ)/\(∀y∈ys,GoodH w y)/\Hid (ys.map (·.t)=(refsOf ts ls l (ps.take k)).1)) (fun _ i _=>ps.length - (intOf i).toNat)
 case atStart=>exact ⟨0,by omega,rfl,by go_simp,by go_simp,(aX _ _).alloc (aY _) _,[],World.ownsRow_nil _ _ _ _,by simp,aF (by rw [List.take_zero,xFG];rfl)⟩
 case round=>
  obtain ⟨k,hk,rfl,y1,y2,hB,ys,hown,hgd,hys⟩:=hrel;have hwlt:=cD _ _ y1;by_cases hlt:k<ps.length
  ·obtain ⟨bC,oC,rfl,hbC,hrC⟩:=HPS.out.sl.at_ hlt;obtain ⟨g1,g2⟩:=RPj.keeps _ _ _ w.heap.size _ _ _ (aY _) hbC hB hrC
   have hsn:Hid ((refsOf ts ls l (ps.take (k+1))).1=(refsOf ts ls l (ps.take k)).1 ++ refT ts (tyOf ts ls l (ps.take k)).1 ps[k]):=aF (by
    have h:=xCB HT.out (k+1);rw [bF hlt] at h ⊢
    exact xED h)
   have hyl:Hid (ys.length<=33):=aF (by
    have h:=pF ts ls l (ps.take k);rw [<- hys.out,cF] at h
    exact h)
   by_cases hkd:ps[k].kind=0
   ·have e2:(ps[k].kind == 0)=true:=by simp [hkd]
    have hij:=fZ HOK.out (xCB HT.out k);obtain ⟨j,hj⟩:=bG hij.1;have hj2:j<ts.length:=(by omega);obtain ⟨bT,oT,rfl,hbT,hrT⟩:=HTS.out.sl.at_ hj2;have htl:(ps.take k).length=k:=by simp;omega
    have hRec:Hid (∀W,Below w.heap.size w W->Calls Tryz.prog 139 #[.slice (some ⟨bT,oT,none⟩) ts.length c,.slice B ls.length d,.agg #[.int .i64 l,.slice (some ⟨bC,oC,none⟩) k e]] W fun e' w'=>e' = .returned (.tuple #[.int .i64 j,.int .i64 0])/\Below W.heap.size W w'):=aF (fun W hW=>by
     have h:=xCN ts ls l k (ps.take k) htl (some ⟨bT,oT,none⟩) B (some ⟨bC,oC,none⟩) c d e W (HTS.out.keep RTy.keeps hW) (HLS.out.keep RLc.keeps hW) ((HPS.out.takeN k).keep RPj.keeps hW) HOK.out;rw [htl,hj,xCB HT.out k] at h
     exact h)
    have hsn2:Hid ((refsOf ts ls l (ps.take (k+1))).1=(refsOf ts ls l (ps.take k)).1 ++ [ts[j]]):=aF (by
     rw [hsn.out,refT,bA hkd,hj,bW,bD hj2]
     rfl)
    generalize ps[k]=x at *;clear hkd hij hj hrC hsn;have hwk:IntKind.i64.wrap (k:Int)=(k:Int):=by rw [IntKind.wrap_i64];omega
    go_wp2
    refine gT (S:=fun X=>X.cell? ⟨w.heap.size,0,none⟩=some (.int .i64 l)/\X.cell? ⟨w.heap.size,1,none⟩=some (.slice (some ⟨bC,oC,none⟩) ps.length e)) (t:=15) (by kernel_rfl) ?_;have hS:wr.drew.cell? ⟨w.heap.size,0,none⟩=some (.int .i64 l)/\wr.drew.cell? ⟨w.heap.size,1,none⟩=some (.slice (some ⟨bC,oC,none⟩) ps.length e):=⟨y1,y2⟩;refine dI (i:=0) (v:=?tv0) rfl (by kernel_rfl) (by kernel_rfl) (by kernel_rfl) (by kernel_rfl) (fun _ _ _ h=>h) (Or.inl ⟨by rfl,?ty0⟩) hS ?tr0
    case ty0=>
     rintro X ⟨s1,s2⟩;simp only [aL];go_simp;rfl
    simp only [aL,Act.put,aK];refine dI (i:=1) (v:=?tv1) rfl (by kernel_rfl) (by kernel_rfl) (by kernel_rfl) (by kernel_rfl) (fun _ _ _ h=>h) (Or.inl ⟨by rfl,?ty1⟩) hS ?tr1
    case ty1=>
     rintro X ⟨s1,s2⟩;simp only [aL];go_simp;rfl
    simp only [aL,Act.put,aK];refine dI (i:=2) (v:=?tv2) rfl (by kernel_rfl) (by kernel_rfl) (by kernel_rfl) (by kernel_rfl) (fun _ _ _ h=>h) (Or.inl ⟨by rfl,?ty2⟩) hS ?tr2
    case ty2=>
     rintro X ⟨s1,s2⟩;simp only [aL];go_simp;rfl
    simp only [aL,Act.put,aK];refine dI (i:=3) (v:=?tv3) rfl (by kernel_rfl) (by kernel_rfl) (by kernel_rfl) (by kernel_rfl) (fun _ _ _ h=>h) (Or.inl ⟨by rfl,?ty3⟩) hS ?tr3
    case ty3=>
     rintro X ⟨s1,s2⟩;simp only [aL];go_simp;rfl
    simp only [aL,Act.put,aK];refine dI (i:=4) (v:=?tv4) rfl (by kernel_rfl) (by kernel_rfl) (by kernel_rfl) (by kernel_rfl) (fun _ _ _ h=>h) (Or.inl ⟨by rfl,?ty4⟩) hS ?tr4
    case ty4=>
     rintro X ⟨s1,s2⟩;simp only [aL];go_simp;rfl
    simp only [aL,Act.put,aK];refine dI (i:=5) (v:=?tv5) rfl (by kernel_rfl) (by kernel_rfl) (by kernel_rfl) (by kernel_rfl) (fun _ _ _ h=>h) (Or.inl ⟨by rfl,?ty5⟩) hS ?tr5
    case ty5=>
     rintro X ⟨s1,s2⟩;simp only [aL];go_simp;rfl
    simp only [aL,Act.put,aK];refine dI (i:=6) (v:=?tv6) rfl (by kernel_rfl) (by kernel_rfl) (by kernel_rfl) (by kernel_rfl) (fun _ _ _ h=>h) (Or.inl ⟨by rfl,?ty6⟩) hS ?tr6
    case ty6=>
     rintro X ⟨s1,s2⟩;simp only [aL];go_simp;rfl
    simp only [aL,Act.put,aK];refine dI (i:=7) (v:= .slice (some ⟨bC,oC,none⟩) k e) rfl (by kernel_rfl) (by kernel_rfl) (by kernel_rfl) (by kernel_rfl) (fun _ _ _ h=>h) (Or.inl ⟨by rfl,?ty7⟩) hS ?tr7
    case ty7=>
     rintro X ⟨s1,s2⟩;simp only [aL];go_simp;(try simp only [hwk]);first | rfl | (intro h;omega) | (rw [bA (by omega)];simp)
    simp only [aL,Act.put,aK];refine dI (i:=8) (v:=?tv8) rfl (by kernel_rfl) (by kernel_rfl) (by kernel_rfl) (by kernel_rfl) (fun _ _ _ h=>h) (Or.inl ⟨by rfl,?ty8⟩) hS ?tr8
    case ty8=>
     rintro X ⟨s1,s2⟩;simp only [aL];go_simp;rfl
    simp only [aL,Act.put,aK];refine dV (i:=9) (by kernel_rfl) rfl (fun K1 hK1=>?_);simp only [aL,Act.put,aK];rw [bA (by rfl)];go_simp;refine (hRec.out _ hB.drew).mono ?_;rintro e' w2 ⟨rfl,hb2⟩;have hS2:w2.cell? ⟨w.heap.size,0,none⟩=some (.int .i64 l)/\w2.cell? ⟨w.heap.size,1,none⟩=some (.slice (some ⟨bC,oC,none⟩) ps.length e):=⟨cJ hb2 hS.1,cJ hb2 hS.2⟩;refine hK1.out _ _ (fun _=>hS2) ?_;refine dI (i:=10) (v:=?tv10) rfl (by kernel_rfl) (by kernel_rfl) (by kernel_rfl) (by kernel_rfl) (fun _ _ _ h=>h) (Or.inl ⟨by rfl,?ty10⟩) hS2 ?tr10
    case ty10=>
     rintro X ⟨s1,s2⟩;simp only [aL];go_simp;rfl
    simp only [aL,Act.put,aK];refine dI (i:=11) (v:=?tv11) rfl (by kernel_rfl) (by kernel_rfl) (by kernel_rfl) (by kernel_rfl) (fun _ _ _ h=>h) (Or.inl ⟨by rfl,?ty11⟩) hS2 ?tr11
    case ty11=>
     rintro X ⟨s1,s2⟩;simp only [aL];go_simp;rfl
    simp only [aL,Act.put,aK];refine dI (i:=12) (v:=?tv12) rfl (by kernel_rfl) (by kernel_rfl) (by kernel_rfl) (by kernel_rfl) (fun _ _ _ h=>h) (Or.inl ⟨by rfl,?ty12⟩) hS2 ?tr12
    case ty12=>
     rintro X ⟨s1,s2⟩;simp only [aL];go_simp;rfl
    simp only [aL,Act.put,aK];refine dI (i:=13) (v:=?tv13) rfl (by kernel_rfl) (by kernel_rfl) (by kernel_rfl) (by kernel_rfl) (fun _ _ _ h=>h) (Or.inl ⟨by rfl,?ty13⟩) hS2 ?tr13
    case ty13=>
     rintro X ⟨s1,s2⟩;simp only [aL];go_simp;rfl
    simp only [aL,Act.put,aK];refine dI (i:=14) (v:=?tv14) rfl (by kernel_rfl) (by kernel_rfl) (by kernel_rfl) (by kernel_rfl) (fun _ _ _ h=>h) (Or.inl ⟨by rfl,?ty14⟩) hS2 ?tr14
    case ty14=>
     rintro X ⟨s1,s2⟩;simp only [aL];go_simp;rfl
    simp only [aL,Act.put,aK];refine fI (by kernel_rfl) ?_ _;have hB2:Below w.heap.size w w2:=hB.drew.trans (hb2.mono hB.drew.size);have hs2:=hB2.size;have hwz:w.heap.size+1<=w2.heap.size:=cD _ _ hS2.1;have hown2:w2.ownsRow (w.heap.size+1) 81 5 u7 ys.length (ys.flatMap gJ):=dB (show wr.drew.ownsRow (w.heap.size+1) 81 5 u7 ys.length (ys.flatMap gJ) from dU hown (fun _ _ _ _=>rfl)) hb2;obtain ⟨y1',y2'⟩:=hS2;obtain ⟨r1,r2,r3,r4,A2,c2,r5,r6,r7,r8⟩:=hrT;have hnewG:Hid (GoodH w ⟨ts[j],A2,c2⟩):=aF ⟨r8,r6,r7⟩;replace r1:=cJ hB2 r1;replace r2:=cJ hB2 r2;replace r3:=cJ hB2 r3;replace r4:=cJ hB2 r4;replace r5:=cJ hB2 r5;generalize ts[j]=t at *;have hlt2':bT<w2.heap.size:=(by omega);have hGD:=aF hgd;have hownA:=hown2.alloc (.cells #[.int .i64 t.kind,.bool t.mu,.int .i64 t.reg,.int .i64 t.elem,.slice A2 t.flds.length c2] 81);have hyl2:=hyl.out;clear hRec hS hb2 hK1 y1 y2 hown hown2 r6 r7 r8 g1 g2 hgd hB;go_wp2_with (at_builtin;refine wpList_append_own _ rfl _ _ 24 rfl (w.heap.size+1) 81 i0 _ 5 56 Tryz.underlying24 hi hz0 hz1 hz2 rfl (by decide) _ _ _ rfl hownA ⟨w2.heap.size,0,none⟩ 1 1 (gJ ⟨t,A2,c2⟩) rfl rfl ?c1 ?c2 ?c3 ?c4 ?c5 ?_)
    case c1=>
     intro j' u hj';rw [add0,cell_of_row _ _ j' _ _ _ (heap_alloc_new w2 _)];simpa [gJ] using hj'
    case c2=>simp [gJ,Value.oneCell']
    case c3=>unfold maxLen;omega
    case c4=>omega
    case c5=>simp;omega
    intro v' w3 hown' hgrow _;have hB3:Below w.heap.size w w3:=(hB2.alloc hs2 _).grown hgrow (by simp;omega) (fun g hg=>by have:=(hownA.lt g hg).1;omega);have hb4:Below (w.heap.size+1) w2 w3:=((aX _ _).alloc hwz _).grown hgrow (by simp;omega) (fun g hg=>(hownA.lt g hg).1);have y3:=(hb4.cell (p:=⟨w.heap.size,0,none⟩) (by simp)).trans y1';have y4:=(hb4.cell (p:=⟨w.heap.size,1,none⟩) (by simp)).trans y2'
    have hown3:Hid (w3.ownsRow (w.heap.size+1) 81 5 v' (ys ++ [TH.mk t A2 c2]).length ((ys ++ [TH.mk t A2 c2]).flatMap gJ)):=aF (by
     rw [bB,cG,List.flatMap_append,List.flatMap_singleton]
     exact hown')
    clear hown' hgrow hownA hb4 y1' y2' r1 r2 r3 r4 r5 hB2;go_wp2
    go_roundw
    case rel=>exact ⟨k+1,by omega,by go_num,y3,y4,hB3,ys ++ [⟨t,A2,c2⟩],hown3.out,fun y hy=>(List.mem_append.1 hy).elim (hGD.out y) (fun h=>by rw [bS] at h;rw [h];exact hnewG.out),aF (by rw [bU,hys.out,hsn2.out];rfl)⟩
    case measure=>simp [intOf];omega
   ·have e2:(ps[k].kind == 0)=false:=by simp [hkd]
    have hsn2:Hid ((refsOf ts ls l (ps.take (k+1))).1=(refsOf ts ls l (ps.take k)).1):=aF (by
     rw [hsn.out,refT,aZ hkd,List.append_nil])
    have hys2:=aF (hys.out.trans hsn2.out.symm);generalize ps[k]=x at *;have hGD:=aF hgd;clear hkd hrC hsn hsn2 hys hgd;go_wp2
    go_roundw
    case rel=>exact ⟨k+1,by omega,by go_num,y1,y2,hB,ys,hown,hGD.out,hys2⟩
    case measure=>simp [intOf];omega
  ·have hke:k=ps.length:=by omega
   subst hke;obtain ⟨A2,c2,rfl,hsl⟩:=gX hown (fun y hy=>(hgd y hy).keep hB);have hlen2:Hid (ys.length=(refsOf ts ls l ps).1.length):=aF (by rw [<- hfin.out,<- hys.out,cF]);have hsl2:Hid (Slc 5 RTy wr A2 c2 (refsOf ts ls l ps).1):=aF (by rw [<- hfin.out,<- hys.out];exact hsl);clear hgd hown hsl;go_wp2
   go_ret;exact ⟨A2,c2,by rw [hlen2.out];rfl,hsl2.out,hB⟩
end
section
open Go.RowKit Go.Shelf
theorem xFW (A B C:Option Addr) (nt c nl d np e:Nat) (l i q:Int) (us:List Ty) (w:World)
 (hT:Hid (Calls Tryz.prog 139 #[.slice A nt c,.slice B nl d,.agg #[.int .i64 l,.slice C np e]] (w.alloc (.cells #[.int .i64 l,.slice C np e] 46)) fun e' w'=>e' = .returned (.tuple #[.int .i64 i,.int .i64 q])/\Below (w.heap.size+1) (w.alloc (.cells #[.int .i64 l,.slice C np e] 46)) w'))
 (hR:Hid (q=0->∀W,Below w.heap.size w W->Calls Tryz.prog 169 #[.slice A nt c,.slice B nl d,.agg #[.int .i64 l,.slice C np e]] W fun e' w'=>∃A' c',e' = .returned (.slice A' us.length c')/\Slc 5 RTy w' A' c' us/\Below W.heap.size W w')):
 Calls Tryz.prog 140 #[.slice A nt c,.slice B nl d,.agg #[.int .i64 l,.slice C np e]] w fun e' w'=>e' = .returned (.bool (decide (q=0) && !us.any notMu))/\Below w.heap.size w w':=by
 have hB0:=aF (((aX _ _).alloc (aY _) _:Below w.heap.size w (w.alloc (.cells #[.int .i64 l,.slice C np e] 46))));have z1:(w.alloc (.cells #[.int .i64 l,.slice C np e] 46)).cell? ⟨w.heap.size,0,none⟩=some (.int .i64 l):=by go_simp
 have z2:(w.alloc (.cells #[.int .i64 l,.slice C np e] 46)).cell? ⟨w.heap.size,1,none⟩=some (.slice C np e):=by go_simp
 by_cases hq:q=0
 ·have hR2:=aF (hR.out hq);subst hq;go_enter Tryz.func140,Tryz.ntmps140
  go_wp2_with (first
   | (go_at_call 139;refine hT.out.mono ?_;rintro e' w1 ⟨rfl,hb1⟩;have z1':=(hb1.cell (p:=⟨w.heap.size,0,none⟩) (by simp)).trans z1;have z2':=(hb1.cell (p:=⟨w.heap.size,1,none⟩) (by simp)).trans z2)
   | (go_at_call 169;refine (hR2.out _ (hB0.out.trans (hb1.mono (Nat.le_succ _)))).mono ?_;rintro e' w2 ⟨A',c',rfl,hs',hb2⟩))
  have hB1:=hB0.out.trans (hb1.mono (Nat.le_succ _));have hB2:Below w.heap.size w w2:=hB1.trans (hb2.mono hB1.size);have hle:=hs'.le;have hbig:=hs'.big;have hz:Hid (us.any notMu=(us.drop 0).any notMu):=aF (by simp);clear hT hR hR2 hB0 hB1 hb1 hb2 z1 z2 z1' z2';go_loopw [10] (fun v wr=>wr=w2/\∃k:Nat,k<=us.length/\v = .int .i64 k/\Hid (us.any notMu=(us.drop k).any notMu)) (fun v _=>us.length - (intOf v).toNat)
  case atStart=>exact ⟨rfl,0,by omega,rfl,hz⟩
  case round=>
   obtain ⟨rfl,k,hk,rfl,he⟩:=hrel;clear hz;by_cases hlt:k<us.length
   ·obtain ⟨b,off,rfl,hb,hr⟩:=hs'.sl.at_ hlt;have hd:=aF (cS hlt);generalize us[k]=x at hr hd;obtain ⟨g1,g2,_⟩:=hr;go_wp2
    ·go_ret;exact ⟨by rw [he.out,hd.out,List.any_cons];simp [notMu, *],hB2⟩
    ·go_roundw
     case rel=>exact ⟨trivial,k+1,by omega,by go_num,aF (by rw [he.out,hd.out,List.any_cons];simp [notMu, *])⟩
     case measure=>simp [intOf];omega
   ·have hd:us.drop k=[]:=bE (by omega);have hfin:Hid (us.any notMu=false):=aF (by rw [he.out,hd];rfl);clear he hd;go_wp2
    go_ret;exact ⟨by rw [hfin.out];rfl,hB2⟩
 ·have hq2:(q != 0)=true:=by simp [hq]
  have hq3:Hid (decide (q=0)=false):=aF (by simp [hq]);clear hq hR;go_enter Tryz.func140,Tryz.ntmps140
  go_wp2_with (go_at_call 139;refine hT.out.mono ?_;rintro e' w1 ⟨rfl,hb1⟩)
  go_ret;exact ⟨by rw [hq3.out];rfl,hB0.out.trans (hb1.mono (Nat.le_succ _))⟩
theorem xFV (A B C:Option Addr) (nt c nl d np e:Nat) (l i q:Int) (us:List Ty) (w:World) (hus:us.length<=33) (hbad:q≠0->us=[])
 (hT:Hid (Calls Tryz.prog 139 #[.slice A nt c,.slice B nl d,.agg #[.int .i64 l,.slice C np e]] (w.alloc (.cells #[.int .i64 l,.slice C np e] 46)) fun e' w'=>e' = .returned (.tuple #[.int .i64 i,.int .i64 q])/\Below (w.heap.size+1) (w.alloc (.cells #[.int .i64 l,.slice C np e] 46)) w'))
 (hR:Hid (q=0->∀W,Below w.heap.size w W->Calls Tryz.prog 169 #[.slice A nt c,.slice B nl d,.agg #[.int .i64 l,.slice C np e]] W fun e' w'=>∃A' c',e' = .returned (.slice A' us.length c')/\Slc 5 RTy w' A' c' us/\Below W.heap.size W w')):
 Calls Tryz.prog 170 #[.slice A nt c,.slice B nl d,.agg #[.int .i64 l,.slice C np e]] w fun e' w'=>∃A' c',e' = .returned (.slice A' us.length c')/\Slc 1 RInt w' A' c' (us.map (·.reg))/\Below w.heap.size w w':=by
 have hB0:=aF (((aX _ _).alloc (aY _) _:Below w.heap.size w (w.alloc (.cells #[.int .i64 l,.slice C np e] 46))));have z1:(w.alloc (.cells #[.int .i64 l,.slice C np e] 46)).cell? ⟨w.heap.size,0,none⟩=some (.int .i64 l):=by go_simp
 have z2:(w.alloc (.cells #[.int .i64 l,.slice C np e] 46)).cell? ⟨w.heap.size,1,none⟩=some (.slice C np e):=by go_simp
 by_cases hq:q=0
 ·have hR2:=aF (hR.out hq);subst hq;clear hbad;go_enter Tryz.func170,Tryz.ntmps170
  go_wp2_with (first
   | (go_at_call 139;refine hT.out.mono ?_;rintro e' w1 ⟨rfl,hb1⟩;have z1':=(hb1.cell (p:=⟨w.heap.size,0,none⟩) (by simp)).trans z1;have z2':=(hb1.cell (p:=⟨w.heap.size,1,none⟩) (by simp)).trans z2)
   | (go_at_call 169;refine (hR2.out _ (hB0.out.trans (hb1.mono (Nat.le_succ _)))).mono ?_;rintro e' w2 ⟨A',c',rfl,hs',hb2⟩))
  have hB1:=hB0.out.trans (hb1.mono (Nat.le_succ _));have hbw:Below w.heap.size w w2:=hB1.trans (hb2.mono hB1.size);have hle:=hs'.le;have hbig:=hs'.big;obtain ⟨i0,hi,hz0,hz1,hz2⟩:=info_parts eF;clear hT hR hR2 hB0 hB1 hb1 hb2 z1 z2 z1' z2';go_loopw [7,11] (fun v i wr=>∃k:Nat,k<=us.length/\i = .int .i64 k/\wr.ownsRow w2.heap.size 3 1 v k ((us.map (fun t=>Value.int .i64 t.reg)).take k)/\Below w2.heap.size w2 wr) (fun _ i _=>us.length - (intOf i).toNat)
  case atStart=>exact ⟨0,by omega,rfl,World.ownsRow_nil _ _ _ _,aX _ _⟩
  case round=>
   obtain ⟨k,hk,rfl,hown,hB⟩:=hrel;by_cases hlt:k<us.length
   ·obtain ⟨bT,oT,rfl,hbT,hrT⟩:=hs'.sl.at_ hlt;obtain ⟨r1,r2,r3,r4,A2,c2,r5,r6,r7,r8⟩:=RTy.keeps _ _ _ w2.heap.size _ _ _ (aY _) hbT hB hrT
    have htk:Hid ((us.map (fun t=>Value.int .i64 t.reg)).take (k+1)=(us.map (fun t=>Value.int .i64 t.reg)).take k ++ [.int .i64 us[k].reg]):=aF (by
     rw [bF (by simpa using hlt)]
     simp)
    generalize us[k]=tt at *;clear hrT r8;have hown2:=hown.alloc (.cells #[.int .i64 tt.reg] 3);have hsz:=hB.size;go_wp2_with (at_builtin;refine wpList_append_own _ rfl _ _ 58 rfl w2.heap.size 3 i0 (.int .i64 0) 1 8 Tryz.underlying58 hi hz0 hz1 hz2 rfl (by decide) _ _ _ rfl hown2 ⟨wr.heap.size,0,none⟩ 1 1 [.int .i64 tt.reg] rfl rfl ?c1 ?c2 ?c3 ?c4 ?c5 ?_)
    try (case c1=>
     intro j u hj;match j,hj with
     | 0,hj=>
       simp at hj;subst hj;rw [add0]
       go_simp)
    case c2=>first | rfl | (intro u hu;simp at hu;subst hu;rfl)
    case c3=>unfold maxLen;omega
    case c4=>omega
    case c5=>simp;omega
    intro v' w3 hown' hgrow _;have hown3:w3.ownsRow w2.heap.size 3 1 v' (k+1) ((us.map (fun t=>Value.int .i64 t.reg)).take (k+1)):=by rw [htk.out];exact hown'
    have hB2:Below w2.heap.size w2 w3:=(hB.alloc hsz _).grown hgrow (by simp;omega) (fun g hg=>(hown2.lt g hg).1);clear hown' hgrow hown hown2 hB r1 r2 r3 r4 r5;go_wp2
    go_roundw
    case rel=>exact ⟨k+1,by omega,by simp,hown3,hB2⟩
    case measure=>simp [intOf];omega
   ·have hlt2:¬((k:Int)<(us.length:Int)):=(by omega);have hke:k=us.length:=(by omega);subst hke
    have hown2:wr.ownsRow w2.heap.size 3 1 u7 (us.map (·.reg)).length ((us.map (·.reg)).map (Value.int .i64)):=by
     have h:=hown;rw [List.take_of_length_le (by simp)] at h;rwa [cF,List.map_map]
    obtain ⟨A2,c2,rfl,hsl⟩:=dE hown2;rw [cF] at *;have hsl2:=aF hsl;clear hown hown2 hsl;go_wp2
    go_ret;exact ⟨A2,c2,rfl,hsl2.out,hbw.trans (hB.mono hbw.size)⟩
 ·have hq2:(q != 0)=true:=by simp [hq]
  have hu:=hbad hq;subst hu;clear hq hR hbad;go_enter Tryz.func170,Tryz.ntmps170
  go_wp2_with (go_at_call 139;refine hT.out.mono ?_;rintro e' w1 ⟨rfl,hb1⟩)
  go_ret;exact ⟨none,0,rfl,⟨Sl.nil,by simp,by omega⟩,hB0.out.trans (hb1.mono (Nat.le_succ _))⟩
theorem xFF (ts:List Ty) (ls:List Lc) (l:Int) (ps:List Pj):(refsOf ts ls l ps).2=decide ((tyOf ts ls l ps).2=0):=by
 rw [refsOf,xEH];by_cases h:(tyOf ts ls l ps).2=0 <;> simp [h]
theorem xDN (ts:List Ty) (ls:List Lc) (l:Int) (ps:List Pj) (A B C:Option Addr) (c d e:Nat) (w:World) (hts:Slc 5 RTy w A c ts) (hls:Slc 2 RLc w B d ls) (hps:Slc 2 RPj w C e ps) (hok:Okay ts ls):
 Calls Tryz.prog 140 #[.slice A ts.length c,.slice B ls.length d,.agg #[.int .i64 l,.slice C ps.length e]] w fun e' w'=>e' = .returned (.bool ((refsOf ts ls l ps).2 && !(refsOf ts ls l ps).1.any notMu))/\Below w.heap.size w w':=by
 rw [xFF];have hT:=xCN ts ls l ps.length ps rfl A B C c d e (w.alloc (.cells #[.int .i64 l,.slice C ps.length e] 46)) (hts.keep RTy.keeps ((aX _ _).alloc (aY _) _)) (hls.keep RLc.keeps ((aX _ _).alloc (aY _) _)) (hps.keep RPj.keeps ((aX _ _).alloc (aY _) _)) hok;rw [bI] at hT;exact xFW A B C ts.length c ls.length d ps.length e l _ _ _ w (aF hT) (aF (fun hq W hW=>xDM ts ls l ps A B C c d e W (hts.keep RTy.keeps hW) (hls.keep RLc.keeps hW) (hps.keep RPj.keeps hW) hok hq))
theorem xDL (ts:List Ty) (ls:List Lc) (l:Int) (ps:List Pj) (A B C:Option Addr) (c d e:Nat) (w:World) (hts:Slc 5 RTy w A c ts) (hls:Slc 2 RLc w B d ls) (hps:Slc 2 RPj w C e ps) (hok:Okay ts ls):
 Calls Tryz.prog 170 #[.slice A ts.length c,.slice B ls.length d,.agg #[.int .i64 l,.slice C ps.length e]] w fun e' w'=>∃A' c',e' = .returned (.slice A' (refsOf ts ls l ps).1.length c')/\Slc 1 RInt w' A' c' ((refsOf ts ls l ps).1.map (·.reg))/\Below w.heap.size w w':=by
 have hT:=xCN ts ls l ps.length ps rfl A B C c d e (w.alloc (.cells #[.int .i64 l,.slice C ps.length e] 46)) (hts.keep RTy.keeps ((aX _ _).alloc (aY _) _)) (hls.keep RLc.keeps ((aX _ _).alloc (aY _) _)) (hps.keep RPj.keeps ((aX _ _).alloc (aY _) _)) hok;rw [bI] at hT;exact xFV A B C ts.length c ls.length d ps.length e l _ _ _ w (pF _ _ _ _) (fun hq=>by rw [xDA hq]) (aF hT) (aF (fun hq W hW=>xDM ts ls l ps A B C c d e W (hts.keep RTy.keeps hW) (hls.keep RLc.keeps hW) (hps.keep RPj.keeps hW) hok hq))
end
section
open Go Go.RowKit
theorem xAF (p:Plc) (A:Option Addr) (c:Nat) (w:World):
 Calls Tryz.prog 98 #[.agg #[.int .i64 p.loc,.slice A p.proj.length c]] w fun e' w'=>e' = .returned (.bool (zeroP p))/\Below w.heap.size w w':=by
 obtain ⟨m,hm⟩:∃m,p.proj.length=m:=⟨_,rfl⟩;unfold zeroP;rw [hm];obtain ⟨q,hq⟩:∃q,(decide (p.loc=0) && decide (m=0))=q:=⟨_,rfl⟩;rw [hq];have HQ:=aF hq;clear hq hm;go_enter Tryz.func98,Tryz.ntmps98
 go_wp2_with fail
 all_goals
  go_ret;refine ⟨?_,aH⟩;rw [<- HQ.out]
  first
   | (simp_all;done)
   | (simp_all;exact eR m)
theorem xAG (b:Bdy) (bh:BH) (p:Plc) (A:Option Addr) (c:Nat) (w:World) (H:BdAt w b bh) (hp:Slc 2 RPj w A c p.proj) (hok:Okay b.types b.locals):
 Calls Tryz.prog 95 #[.agg (bdC b bh).toArray,.agg #[.int .i64 p.loc,.slice A p.proj.length c]] w fun e' w'=>e' = .returned (.tuple #[.int .i64 (tyB b p).1,.int .i64 (tyB b p).2])/\Below w.heap.size w w':=by
 have HT:=aF (fun W (hb:Below w.heap.size w W)=>xCN b.types b.locals p.loc _ p.proj rfl bh.A3 bh.A4 A bh.c3 bh.c4 c W (H.keep hb).typ (H.keep hb).loc (hp.keep RPj.keeps hb) hok);change Hid (∀W,Below w.heap.size w W->Calls Tryz.prog 139 _ W fun e' w'=>e' = .returned (.tuple #[.int .i64 (tyB b p).1,.int .i64 (tyB b p).2])/\Below W.heap.size W w') at HT;generalize tyB b p=q at HT ⊢;clear H hp hok;unfold bdC;go_enter Tryz.func95,Tryz.ntmps95
 go_wp2_with (go_at_call 139;refine (HT.out _ (bel2 _ _ _)).mono ?_;rintro e' w1 ⟨rfl,hb1⟩)
 go_ret2
 exact ⟨rfl,(bel2 _ _ _).trans (hb1.mono (bel2 _ _ _).size)⟩
theorem xCO (b:Bdy) (bh:BH) (p:Plc) (A:Option Addr) (c:Nat) (w:World) (H:BdAt w b bh) (hp:Slc 2 RPj w A c p.proj) (hok:Okay b.types b.locals):
 Calls Tryz.prog 96 #[.agg (bdC b bh).toArray,.agg #[.int .i64 p.loc,.slice A p.proj.length c]] w fun e' w'=>e' = .returned (.bool (mutB b p))/\Below w.heap.size w w':=by
 have HT:=aF (fun W (hb:Below w.heap.size w W)=>xDN b.types b.locals p.loc p.proj bh.A3 bh.A4 A bh.c3 bh.c4 c W (H.keep hb).typ (H.keep hb).loc (hp.keep RPj.keeps hb) hok);change Hid (∀W,Below w.heap.size w W->Calls Tryz.prog 140 _ W fun e' w'=>e' = .returned (.bool (mutB b p))/\Below W.heap.size W w') at HT;generalize mutB b p=q at HT ⊢;clear H hp hok;unfold bdC;go_enter Tryz.func96,Tryz.ntmps96
 go_wp2_with (go_at_call 140;refine (HT.out _ (bel2 _ _ _)).mono ?_;rintro e' w1 ⟨rfl,hb1⟩)
 go_ret;exact ⟨rfl,(bel2 _ _ _).trans (hb1.mono (bel2 _ _ _).size)⟩
end
end Go.Proofs.YtmknfbfppmkcfaaGreatDoor
