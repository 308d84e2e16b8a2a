/-
  Parts of the proof: Base W1 W3 W4 W5 Range W6.
-/
import Derived.Test.YtkaigkfbkpinlaaGreatDoorFP0
import Derived.Test.YtkaigkfbkpinlaaGreatDoorProg
import Derived.WalkKit
import Derived.WalkSpells
import Derived.WalkLawsBesides
import Derived.Lib.Hide
import Derived.Deep.RegionHeld3
import Derived.Deep.DeepFit
import Derived.Deep.QuietTactic
import Derived.BigQuiet
import Derived.OwnWalk
import Derived.Maps.AppendAt
import Derived.Deep.DeepCutAuto
import Derived.StillTailTactics
import Derived.RangeFuncNested
import Derived.RangeFuncBound
import Derived.RangeFuncCalls
import Derived.RangeFuncLeaves
import Derived.OwnWalkIn
import Derived.TacticsInMore
import Derived.LoopNIn
import Derived.LoopIn
namespace Go.Proofs.YtkaigkfbkpinlaaGreatDoor
set_option maxRecDepth 100000
set_option maxHeartbeats 16000000
section
open Go.RowKit
abbrev Rd (α : Type):=World->Nat->Nat->Nat-> α -> Prop
def Rd.Keeps {α : Type} (R:Rd α):Prop:=∀(w w':World) (B B' b o:Nat) (x : α),B<=B'->b<B->Below B w w'->R w B b o x->R w' B' b o x
def Sl {α : Type} (k:Nat) (R:Rd α) (w:World) (B:Nat) (A:Option Addr) (xs:List α):Prop:=
 0<xs.length->∃b off,A=some ⟨b,off,none⟩/\b<B/\∀i x,xs[i]?=some x->R w B b (off+i * k) x
theorem Sl.keep {α : Type} {k:Nat} {R:Rd α} (hR:R.Keeps) {w w':World} {B B':Nat} {A:Option Addr} {xs:List α} (h:Sl k R w B A xs) (hB:B<=B') (hb:Below B w w'):Sl k R w' B' A xs:=fun hn=>by
 obtain ⟨b,off,hA,hlt,hx⟩:=h hn;exact ⟨b,off,hA,by omega,fun i x hi=>hR w w' B B' b _ x hB hlt hb (hx i x hi)⟩
theorem Sl.nil {α : Type} {k:Nat} {R:Rd α} {w:World} {B:Nat} {A:Option Addr}:Sl k R w B A ([]:List α):=fun h=>absurd h (by simp)
theorem Sl.take {α : Type} {k:Nat} {R:Rd α} {w:World} {B:Nat} {A:Option Addr} {xs:List α} (h:Sl k R w B A xs) (n:Nat):Sl k R w B A (xs.take n):=fun hn=>by
 have hl:0<xs.length:=by
  rw [cO] at hn;omega
 obtain ⟨b,off,hA,hlt,hx⟩:=h hl;refine ⟨b,off,hA,hlt,fun i x hi=>hx i x ?_⟩;rw [List.getElem?_take] at hi;split at hi
 ·exact hi
 ·cases hi
theorem Sl.at_ {α : Type} {k:Nat} {R:Rd α} {w:World} {B:Nat} {A:Option Addr} {xs:List α} (h:Sl k R w B A xs) {i:Nat} (hi:i<xs.length):
 ∃b off,A=some ⟨b,off,none⟩/\b<B/\R w B b (off+i * k) xs[i]:=by
 obtain ⟨b,off,hA,hlt,hx⟩:=h (by omega);exact ⟨b,off,hA,hlt,hx i _ (bF hi)⟩
def RInt:Rd Int:=fun w _ b o x=>w.cell? ⟨b,o,none⟩=some (.int .i64 x)
theorem RInt.keeps:RInt.Keeps:=fun _ _ _ _ b o _ _ hlt hb h=>(hb.cell (p:=⟨b,o,none⟩) hlt).trans h
theorem cQ {W W':World} {p:Addr} {v:Value} (hb:Below W.heap.size W W') (h:W.cell? p=some v):W'.cell? p=some v:=
 (hb.cell (p:=p) (cF W p h)).trans h
structure Slc {α : Type} (k:Nat) (R:Rd α) (w:World) (A:Option Addr) (c:Nat) (xs:List α):Prop where
 sl:Sl k R w w.heap.size A xs
 le:xs.length<=c
 big:c<=9223372036854775807
theorem Slc.keep {α : Type} {k:Nat} {R:Rd α} (hR:R.Keeps) {w w':World} {A:Option Addr} {c:Nat} {xs:List α} (h:Slc k R w A c xs) (hb:Below w.heap.size w w'):Slc k R w' A c xs:=
 ⟨h.sl.keep hR hb.size hb,h.le,h.big⟩
theorem eB {b n:Nat} (h:b<n):b<n+1/\b<n+1+1/\b<n+1+1+1/\b<n+1+1+1+1/\b<n+1+1+1+1+1/\b<n+1+1+1+1+1+1:=by omega
theorem dC {A B:World} {base:Nat} {e:TypeId} {size:Nat} {v:Value} {m:Nat} {xs:List Value} (ho:A.ownsRow base e size v m xs) (h:∀k,base<=k->k<A.heap.size->some k=v.ownBlock->B.heap[k]?=A.heap[k]?):B.ownsRow base e size v m xs:=by
 refine ⟨ho.1,?_⟩;have hlt:=ho.lt;rcases ho.2 with hn | ⟨g,cap,cur,hv,hg,hh,rest⟩
 ·exact .inl hn
 ·have:=hlt g (by rw [hv];rfl);exact .inr ⟨g,cap,cur,hv,hg,(h g this.1 (Array.getElem?_eq_some_iff.1 hh).1 (by rw [hv];rfl)).trans hh,rest⟩
theorem dE {A B:World} {base:Nat} {e:TypeId} {size:Nat} {v:Value} {m:Nat} {xs:List Value} (ho:A.ownsRow base e size v m xs) (h:Below A.heap.size A B):B.ownsRow base e size v m xs:=
 dC ho (fun k _ hk _=>h.block k hk)
theorem add0 (g n:Nat):(⟨g,0,none⟩:Addr).add n=⟨g,n,none⟩:=by unfold Addr.add;split <;> simp_all
structure Pj where
 kind:Int
 field:Int
 deriving DecidableEq
structure Ty where
 kind:Int
 mu:Bool
 reg:Int
 elem:Int
 flds:List Int
 deriving DecidableEq
structure Lc where
 name:ByteArray
 type:Int
 deriving DecidableEq
structure Plc where
 loc:Int
 proj:List Pj
 deriving DecidableEq
structure Opd where
 kind:Int
 place:Plc
 n:Int
 deriving DecidableEq
structure Rvl where
 kind:Int
 op:Int
 reg:Int
 mu:Bool
 place:Plc
 args:List Opd
 deriving DecidableEq
structure Stm where
 kind:Int
 place:Plc
 rv:Rvl
 loc:Int
 deriving DecidableEq
structure Trm where
 kind:Int
 targets:List Int
 args:List Opd
 place:Plc
 name:ByteArray
 deriving DecidableEq
structure Blk where
 stmts:List Stm
 term:Trm
 deriving DecidableEq
structure Bdy where
 name:ByteArray
 regions:List ByteArray
 outl:List (Int × Int)
 types:List Ty
 locals:List Lc
 args:Int
 blocks:List Blk
 deriving DecidableEq
def RPj:Rd Pj:=fun w _ b o x=>w.cell? ⟨b,o,none⟩=some (.int .i64 x.kind)/\w.cell? ⟨b,o+1,none⟩=some (.int .i64 x.field)
theorem RPj.keeps:RPj.Keeps:=fun _w _w' _B _B' b o _x _ hlt hb h=>⟨(hb.cell (p:=⟨b,o,none⟩) hlt).trans h.1,(hb.cell (p:=⟨b,o+1,none⟩) hlt).trans h.2⟩
def RTy:Rd Ty:=fun w B b o x=>w.cell? ⟨b,o,none⟩=some (.int .i64 x.kind)/\w.cell? ⟨b,o+1,none⟩=some (.bool x.mu)/\w.cell? ⟨b,o+2,none⟩=some (.int .i64 x.reg)/\w.cell? ⟨b,o+3,none⟩=some (.int .i64 x.elem)/\
 ∃A c,w.cell? ⟨b,o+4,none⟩=some (.slice A x.flds.length c)/\x.flds.length<=c/\c<=9223372036854775807/\Sl 1 RInt w B A x.flds
theorem RTy.keeps:RTy.Keeps:=fun _w _w' _B _B' b o _x hB hlt hb ⟨h0,h1,h2,h3,A,c,h4,hc,hm,hs⟩=>
 ⟨(hb.cell (p:=⟨b,o,none⟩) hlt).trans h0,(hb.cell (p:=⟨b,o+1,none⟩) hlt).trans h1,(hb.cell (p:=⟨b,o+2,none⟩) hlt).trans h2,(hb.cell (p:=⟨b,o+3,none⟩) hlt).trans h3,
  A,c,(hb.cell (p:=⟨b,o+4,none⟩) hlt).trans h4,hc,hm,hs.keep RInt.keeps hB hb⟩
def RLc:Rd Lc:=fun w _ b o x=>w.cell? ⟨b,o,none⟩=some (.string x.name)/\w.cell? ⟨b,o+1,none⟩=some (.int .i64 x.type)
theorem RLc.keeps:RLc.Keeps:=fun _w _w' _B _B' b o _x _ hlt hb h=>⟨(hb.cell (p:=⟨b,o,none⟩) hlt).trans h.1,(hb.cell (p:=⟨b,o+1,none⟩) hlt).trans h.2⟩
def RSl {α : Type} (k:Nat) (R:Rd α):Rd (List α):=fun w B b o xs=>
 ∃A c,w.cell? ⟨b,o,none⟩=some (.slice A xs.length c)/\xs.length<=c/\c<=9223372036854775807/\Sl k R w B A xs
theorem RSl.keeps {α : Type} {k:Nat} {R:Rd α} (hR:R.Keeps):(RSl k R).Keeps:=fun _ _ _ _ b o _ hB hlt hb ⟨A,c,h,hc,hm,hs⟩=>
 ⟨A,c,(hb.cell (p:=⟨b,o,none⟩) hlt).trans h,hc,hm,hs.keep hR hB hb⟩
def RN:Rd ByteArray:=fun w _ b o x=>w.cell? ⟨b,o,none⟩=some (.string x)
theorem RN.keeps:RN.Keeps:=fun _ _ _ _ b o _ _ hlt hb h=>(hb.cell (p:=⟨b,o,none⟩) hlt).trans h
def RPr:Rd (Int × Int):=fun w _ b o x=>w.cell? ⟨b,o,none⟩=some (.int .i64 x.1)/\w.cell? ⟨b,o+1,none⟩=some (.int .i64 x.2)
theorem RPr.keeps:RPr.Keeps:=fun _ _ _ _ b o _ _ hlt hb h=>⟨(hb.cell (p:=⟨b,o,none⟩) hlt).trans h.1,(hb.cell (p:=⟨b,o+1,none⟩) hlt).trans h.2⟩
def RPl:Rd Plc:=fun w B b o x=>w.cell? ⟨b,o,none⟩=some (.int .i64 x.loc)/\RSl 2 RPj w B b (o+1) x.proj
theorem RPl.keeps:RPl.Keeps:=fun w w' B B' b o _x hB hlt hb h=>⟨(hb.cell (p:=⟨b,o,none⟩) hlt).trans h.1,RSl.keeps RPj.keeps w w' B B' b _ _ hB hlt hb h.2⟩
def ROp:Rd Opd:=fun w B b o x=>w.cell? ⟨b,o,none⟩=some (.int .i64 x.kind)/\RPl w B b (o+1) x.place/\w.cell? ⟨b,o+3,none⟩=some (.int .i64 x.n)
theorem ROp.keeps:ROp.Keeps:=fun w w' B B' b o _x hB hlt hb h=>
 ⟨(hb.cell (p:=⟨b,o,none⟩) hlt).trans h.1,RPl.keeps w w' B B' b _ _ hB hlt hb h.2.1,(hb.cell (p:=⟨b,o+3,none⟩) hlt).trans h.2.2⟩
def RRv:Rd Rvl:=fun w B b o x=>w.cell? ⟨b,o,none⟩=some (.int .i64 x.kind)/\w.cell? ⟨b,o+1,none⟩=some (.int .i64 x.op)/\w.cell? ⟨b,o+2,none⟩=some (.int .i64 x.reg)/\w.cell? ⟨b,o+3,none⟩=some (.bool x.mu)/\
 RPl w B b (o+4) x.place/\RSl 4 ROp w B b (o+6) x.args
theorem RRv.keeps:RRv.Keeps:=fun w w' B B' b o _x hB hlt hb ⟨h0,h1,h2,h3,h4,h5⟩=>
 ⟨(hb.cell (p:=⟨b,o,none⟩) hlt).trans h0,(hb.cell (p:=⟨b,o+1,none⟩) hlt).trans h1,(hb.cell (p:=⟨b,o+2,none⟩) hlt).trans h2,(hb.cell (p:=⟨b,o+3,none⟩) hlt).trans h3,
  RPl.keeps w w' B B' b _ _ hB hlt hb h4,RSl.keeps ROp.keeps w w' B B' b _ _ hB hlt hb h5⟩
def RSt:Rd Stm:=fun w B b o x=>w.cell? ⟨b,o,none⟩=some (.int .i64 x.kind)/\RPl w B b (o+1) x.place/\RRv w B b (o+3) x.rv/\w.cell? ⟨b,o+10,none⟩=some (.int .i64 x.loc)
theorem RSt.keeps:RSt.Keeps:=fun w w' B B' b o _x hB hlt hb ⟨h0,h1,h2,h3⟩=>
 ⟨(hb.cell (p:=⟨b,o,none⟩) hlt).trans h0,RPl.keeps w w' B B' b _ _ hB hlt hb h1,RRv.keeps w w' B B' b _ _ hB hlt hb h2,(hb.cell (p:=⟨b,o+10,none⟩) hlt).trans h3⟩
def RTm:Rd Trm:=fun w B b o x=>w.cell? ⟨b,o,none⟩=some (.int .i64 x.kind)/\RSl 1 RInt w B b (o+1) x.targets/\RSl 4 ROp w B b (o+2) x.args/\RPl w B b (o+3) x.place/\w.cell? ⟨b,o+5,none⟩=some (.string x.name)
theorem RTm.keeps:RTm.Keeps:=fun w w' B B' b o _x hB hlt hb ⟨h0,h1,h2,h3,h4⟩=>
 ⟨(hb.cell (p:=⟨b,o,none⟩) hlt).trans h0,RSl.keeps RInt.keeps w w' B B' b _ _ hB hlt hb h1,RSl.keeps ROp.keeps w w' B B' b _ _ hB hlt hb h2,RPl.keeps w w' B B' b _ _ hB hlt hb h3,(hb.cell (p:=⟨b,o+5,none⟩) hlt).trans h4⟩
def RBk:Rd Blk:=fun w B b o x=>RSl 11 RSt w B b o x.stmts/\RTm w B b (o+1) x.term
theorem RBk.keeps:RBk.Keeps:=fun w w' B B' b _o _x hB hlt hb h=>⟨RSl.keeps RSt.keeps w w' B B' b _ _ hB hlt hb h.1,RTm.keeps w w' B B' b _ _ hB hlt hb h.2⟩
structure BH where
 A1:Option Addr
 c1:Nat
 A2:Option Addr
 c2:Nat
 A3:Option Addr
 c3:Nat
 A4:Option Addr
 c4:Nat
 A5:Option Addr
 c5:Nat
def bdC (b:Bdy) (h:BH):List Value:=[.string b.name,.slice h.A1 b.regions.length h.c1,.slice h.A2 b.outl.length h.c2,.slice h.A3 b.types.length h.c3,.slice h.A4 b.locals.length h.c4,.int .i64 b.args,.slice h.A5 b.blocks.length h.c5]
structure BdAt (w:World) (b:Bdy) (h:BH):Prop where
 reg:Slc 1 RN w h.A1 h.c1 b.regions
 out:Slc 2 RPr w h.A2 h.c2 b.outl
 typ:Slc 5 RTy w h.A3 h.c3 b.types
 loc:Slc 2 RLc w h.A4 h.c4 b.locals
 blk:Slc 7 RBk w h.A5 h.c5 b.blocks
theorem BdAt.keep {w w':World} {b:Bdy} {h:BH} (H:BdAt w b h) (hb:Below w.heap.size w w'):BdAt w' b h:=
 ⟨H.reg.keep RN.keeps hb,H.out.keep RPr.keeps hb,H.typ.keep RTy.keeps hb,H.loc.keep RLc.keeps hb,H.blk.keep RBk.keeps hb⟩
def chkP:List Pj->Int
 | []=>0
 | x :: r=>if x.kind≠0/\x.kind≠1 then 14 else if x.kind=0/\x.field≠0 then 2 else if x.field<0 then 3 else chkP r
def chk (l:Int) (ps:List Pj):Int:=if l<0 then 3 else if 32<ps.length then 19 else chkP ps
theorem dA {α : Type} {l:List α} {k:Nat} (h:k<l.length):l.drop k=l[k] :: l.drop (k+1):=cJ h
theorem ret_i {k:IntKind} {a b:Int} (h:a=b):Ending.returned (.int k a) = .returned (.int k b):=by rw [h]
theorem iI (l:Int) (A:Option Addr) (c:Nat) (ps:List Pj) (w:World) (h:Slc 2 RPj w A c ps):
 Calls Tryz.prog 67 #[.agg #[.int .i64 l,.slice A ps.length c]] w fun e w'=>e = .returned (.int .i64 (chk l ps))/\Below w.heap.size w w':=by
 obtain ⟨hs,hle,hbig⟩:=h;by_cases h1:l<0
 ·go_enter Tryz.func67,Tryz.ntmps67
  go_wp2
  go_ret;exact ⟨ret_i (by simp [chk,h1]),(aZ _ _).alloc (bA _) _⟩
 by_cases h2:32<ps.length
 ·go_enter Tryz.func67,Tryz.ntmps67
  go_wp2
  go_ret;exact ⟨ret_i (by simp [chk,h1,h2]),(aZ _ _).alloc (bA _) _⟩
 have hz:Hid (chk l ps=chkP (ps.drop 0)):=aH (by simp [chk,h1,h2]);go_enter Tryz.func67,Tryz.ntmps67
 go_wp2
 go_loopw [17] (fun v wr=>∃k:Nat,k<=ps.length/\v = .int .i64 k/\Below w.heap.size w wr/\Hid (chk l ps=chkP (ps.drop k))) (fun v _=>ps.length - (intOf v).toNat)
 case atStart=>exact ⟨0,by omega,rfl,(aZ _ _).alloc (bA _) _,hz⟩
 case round=>
  obtain ⟨k,hk,rfl,hB,he⟩:=hrel;clear hz;by_cases hlt:k<ps.length
  ·obtain ⟨b,off,rfl,hb,hr⟩:=hs.at_ hlt;have hd:=aH (dA hlt);generalize ps[k]=x at hr hd;obtain ⟨g1,g2⟩:=RPj.keeps _ _ _ w.heap.size _ _ _ (bA _) hb hB hr;have hsz:=hB.size;clear hr hs;by_cases c1:x.kind=0
   ·by_cases c2:x.field=0
    ·have t1:(x.kind == 0)=true:=by simp [c1]
     have t2:(x.kind != 0)=false:=by simp [c1]
     have t3:(x.field != 0)=false:=by simp [c2]
     have c3:¬x.field<0:=(by omega);have he':Hid (chk l ps=chkP (ps.drop (k+1))):=aH (by rw [he.out,hd.out,chkP,bB (by simp [c1]),bB (by simp [c2]),bB c3]);clear he hd c1 c2;go_wp2
     go_roundw
     case rel=>exact ⟨k+1,by omega,by go_num,hB.alloc hsz _,he'⟩
     case measure=>simp [intOf];omega
    ·have t1:(x.kind == 0)=true:=by simp [c1]
     have t2:(x.kind != 0)=false:=by simp [c1]
     have t3:(x.field != 0)=true:=by simp [c2]
     have hfin:Hid (chk l ps=2):=aH (by rw [he.out,hd.out,chkP,bB (by simp [c1]),bD (by simp [c1,c2])]);clear he hd c1 c2;go_wp2
     go_ret;exact ⟨ret_i hfin.out.symm,hB.alloc hsz _⟩
   ·by_cases c2:x.kind=1
    ·have t1:(x.kind == 0)=false:=by simp [c1]
     have t2:(x.kind != 0)=true:=by simp [c1]
     have t3:(x.kind != 1)=false:=by simp [c2]
     by_cases c3:x.field<0
     ·have hfin:Hid (chk l ps=3):=aH (by rw [he.out,hd.out,chkP,bB (by simp [c2]),bB (by simp [c1]),bD c3]);clear he hd c1 c2;go_wp2
      go_ret;exact ⟨ret_i hfin.out.symm,hB.alloc hsz _⟩
     ·have he':Hid (chk l ps=chkP (ps.drop (k+1))):=aH (by rw [he.out,hd.out,chkP,bB (by simp [c2]),bB (by simp [c1]),bB c3]);clear he hd c1 c2;go_wp2
      go_roundw
      case rel=>exact ⟨k+1,by omega,by go_num,hB.alloc hsz _,he'⟩
      case measure=>simp [intOf];omega
    ·have t2:(x.kind != 0)=true:=by simp [c1]
     have t3:(x.kind != 1)=true:=by simp [c2]
     have hfin:Hid (chk l ps=14):=aH (by rw [he.out,hd.out,chkP,bD ⟨c1,c2⟩]);clear he hd c1 c2;go_wp2
     go_ret;exact ⟨ret_i hfin.out.symm,hB.alloc hsz _⟩
  ·have hd:ps.drop k=[]:=bG (by omega);have hfin:Hid (chk l ps=0):=aH (by rw [he.out,hd,chkP]);clear he hd hs;go_wp2
   go_ret;exact ⟨ret_i hfin.out.symm,hB⟩
theorem neqPj (x y:Pj) (w:World):Sem.run Tryz.prog (binOp .neq 40 (.agg #[.int .i64 x.kind,.int .i64 x.field]) (.agg #[.int .i64 y.kind,.int .i64 y.field])) w = .ok (.bool (!decide (x=y))) w:=by
 have u3:=Tryz.underlying3;have a3:=Tryz.isAgg3;have z3:=Tryz.sizeOf3;have hS:Tryz.prog.underlying 40=some (.struct (Tryz.prog.fieldsOf 40)):=by kernel_rfl
 have hp:Tryz.prog.stoodInHeld 40=false:=by kernel_rfl
 rw [run_neq_struct,show (10000:Nat)=9999+1 from rfl,run_equalIn_agg w 9999 40 _ _ hS hp];simp only [Program.fieldsOf,Tryz.underlying40];go_simp;obtain ⟨k1,f1⟩:=x;obtain ⟨k2,f2⟩:=y;by_cases h1:k1=k2 <;> by_cases h2:f1=f2 <;> simp [h1,h2]
theorem iU {α : Type} {xs ys:List α} {k:Nat} (h:xs.take k=ys.take k) (h1:k<xs.length) (h2:k<ys.length) (he:xs[k]=ys[k]):xs.take (k+1)=ys.take (k+1):=by
 rw [bH h1,bH h2,h,he]
theorem rR {α : Type} {xs ys:List α} {k:Nat} (h1:k<xs.length) (h2:k<ys.length) (he:¬xs[k]=ys[k]):¬xs=ys:=by
 rintro rfl;exact he rfl
theorem mS {α : Type} {xs ys:List α} {k:Nat} (h:xs.take k=ys.take k) (h1:xs.length<=k) (hl:xs.length=ys.length):xs=ys:=by
 rw [List.take_of_length_le h1,List.take_of_length_le (by omega)] at h;exact h
theorem gN {w wr:World} (h:∃q,wr=w.drewN q):Below w.heap.size w wr:=by
 obtain ⟨q,rfl⟩:=h;exact aI (aZ _ _) q
theorem gH {w wr:World} (h:∃q,wr=w.drewN q) (n:Nat):∃q,wr.drewN n=w.drewN q:=by
 obtain ⟨q,rfl⟩:=h;exact ⟨q+n,World.drewN_drewN ..⟩
theorem ret_b {a b:Bool} (h:a=b):Ending.returned (.bool a) = .returned (.bool b):=by rw [h]
def idxF {α : Type} (p : α -> Bool):Nat->List α -> Int
 | _,[]=> -1
 | k,x :: r=>if p x=true then k else idxF p (k+1) r
theorem kE {α : Type} (p : α -> Bool):∀(xs:List α) (k:Nat),decide (0<=idxF p k xs)=xs.any p
 | [],k=>by simp [idxF]
 | x :: r,k=>by
   rw [idxF,List.any_cons];by_cases h:p x=true
   ·simp [h]
   ·rw [bB h,kE p r (k+1)];simp [h]
def isD (x:Pj):Bool:=x.kind == 0
def notMu (t:Ty):Bool:= !t.mu
theorem wZ (x:Pj) (w:World) (B b o:Nat) (_h:RPj w B b o x):
 Calls Tryz.prog 137 #[.agg #[.int .i64 x.kind,.int .i64 x.field]] w fun e w'=>e = .returned (.bool (isD x))/\Below w.heap.size w w':=by
 go_enter Tryz.func137,Tryz.ntmps137
 go_wp2
 go_ret;exact ⟨rfl,(aZ _ _).alloc (bA _) _⟩
theorem wY {P:Prop} (h:P):P:=h
def tyAgg (t:Ty) (A:Option Addr) (c:Nat):Value:= .agg #[.int .i64 t.kind,.bool t.mu,.int .i64 t.reg,.int .i64 t.elem,.slice A t.flds.length c]
theorem zN (t:Ty) (A:Option Addr) (c:Nat) (w:World):
 Calls Tryz.prog 182 #[.agg #[.int .i64 t.kind,.bool t.mu,.int .i64 t.reg,.int .i64 t.elem,.slice A t.flds.length c]] w fun e w'=>e = .returned (.bool (notMu t))/\Below w.heap.size w w':=by
 go_enter Tryz.func182,Tryz.ntmps182
 go_wp2
 go_ret;exact ⟨rfl,(aZ _ _).alloc (bA _) _⟩
theorem vQ (t:Ty) (w:World) (B b o:Nat) (_h:RTy w B b o t):∀(A:Option Addr) (c:Nat),
 Calls Tryz.prog 182 #[.agg #[.int .i64 t.kind,.bool t.mu,.int .i64 t.reg,.int .i64 t.elem,.slice A t.flds.length c]] w fun e w'=>e = .returned (.bool (notMu t))/\Below w.heap.size w w':=fun A c=>zN t A c w
theorem vP {P:Option Addr->Nat->Prop} {A:Option Addr} {c:Nat} (h:∀A c,P A c):P A c:=h A c
theorem nQ (A B:Option Addr) (c d:Nat) (xs ys:List Pj) (w:World) (hx:Slc 2 RPj w A c xs) (hy:Slc 2 RPj w B d ys):
 Calls Tryz.prog 99 #[.slice A xs.length c,.slice B ys.length d] w fun e w'=>e = .returned (.bool (decide (xs=ys)))/\∃q,w'=w.drewN q:=by
 obtain ⟨hs,hle,hbig⟩:=hx;obtain ⟨hs2,hle2,hbig2⟩:=hy;by_cases hl:xs.length=ys.length
 ·have t0:((xs.length:Int) != (ys.length:Int))=false:=by simp [hl]
  have HL:=aH hl;clear hl;go_enter Tryz.func99,Tryz.ntmps99
  go_wp2
  go_loopw [13] (fun v wr=>∃k:Nat,k<=xs.length/\v = .int .i64 k/\(∃q,wr=w.drewN q)/\Hid (xs.take k=ys.take k)) (fun v _=>xs.length - (intOf v).toNat)
  case atStart=>exact ⟨0,by omega,rfl,⟨0,rfl⟩,aH (by simp)⟩
  case round=>
   obtain ⟨k,hk,rfl,hq,he⟩:=hrel;have hB:Below w.heap.size w wr:=gN hq;have hQ:=aH hq;clear hq;by_cases hlt:k<xs.length
   ·have hlt2:k<ys.length:=by have:=HL.out;omega
    obtain ⟨b,off,rfl,hb,hr⟩:=hs.at_ hlt;obtain ⟨b2,off2,rfl,hb2,hr2⟩:=hs2.at_ hlt2;obtain ⟨g1,g2⟩:=RPj.keeps _ _ _ w.heap.size _ _ _ (bA _) hb hB hr;obtain ⟨h1,h2⟩:=RPj.keeps _ _ _ w.heap.size _ _ _ (bA _) hb2 hB hr2;have hne:=neqPj xs[k] ys[k];have hyes:=aH (fun h=>iU he.out hlt hlt2 h);have hno:=aH (rR hlt hlt2);clear he hr hr2;generalize xs[k]=x at *;generalize ys[k]=y at *;clear hs hs2;by_cases hxy:x=y
    ·have hf:(!decide (x=y))=false:=by simp [hxy]
     rw [hf] at hne;have hyes':=aH (hyes.out hxy);clear hyes hno hf hxy;go_wp2
     go_quiet (fail)
     go_wp2
     go_roundw
     case rel=>exact ⟨k+1,by omega,by go_num,gH hQ.out _,hyes'⟩
     case measure=>simp [intOf];omega
    ·have hf:(!decide (x=y))=true:=by simp [hxy]
     rw [hf] at hne;have hno':=aH (hno.out hxy);clear hyes hno hf hxy;go_wp2
     go_quiet (fail)
     go_wp2
     go_ret;exact ⟨ret_b (by simp [hno'.out]),gH hQ.out _⟩
   ·have hfin:=aH (mS he.out (by omega) HL.out);clear he hs hs2;go_wp2
    go_ret;exact ⟨ret_b (by simp [hfin.out]),hQ.out⟩
 ·have t0:((xs.length:Int) != (ys.length:Int))=true:=by simp;omega
  have hfin:Hid (¬xs=ys):=aH (fun h=>hl (by rw [h]));go_enter Tryz.func99,Tryz.ntmps99
  go_wp2
  go_ret;exact ⟨ret_b (by simp [hfin.out]),0,rfl⟩
theorem wU (A B:Option Addr) (c d:Nat) (xs ys:List Int) (w:World) (hx:Slc 1 RInt w A c xs) (hy:Slc 1 RInt w B d ys):
 Calls Tryz.prog 207 #[.slice A xs.length c,.slice B ys.length d] w fun e w'=>e = .returned (.bool (decide (xs=ys)))/\∃q,w'=w.drewN q:=by
 obtain ⟨hs,hle,hbig⟩:=hx;obtain ⟨hs2,hle2,hbig2⟩:=hy;by_cases hl:xs.length=ys.length
 ·have t0:((xs.length:Int) != (ys.length:Int))=false:=by simp [hl]
  have HL:=aH hl;clear hl;go_enter Tryz.func207,Tryz.ntmps207
  go_wp2
  go_loopw [13] (fun v wr=>∃k:Nat,k<=xs.length/\v = .int .i64 k/\(∃q,wr=w.drewN q)/\Hid (xs.take k=ys.take k)) (fun v _=>xs.length - (intOf v).toNat)
  case atStart=>exact ⟨0,by omega,rfl,⟨0,rfl⟩,aH (by simp)⟩
  case round=>
   obtain ⟨k,hk,rfl,hq,he⟩:=hrel;have hB:Below w.heap.size w wr:=gN hq;have hQ:=aH hq;clear hq;by_cases hlt:k<xs.length
   ·have hlt2:k<ys.length:=by have:=HL.out;omega
    obtain ⟨b,off,rfl,hb,hr⟩:=hs.at_ hlt;obtain ⟨b2,off2,rfl,hb2,hr2⟩:=hs2.at_ hlt2;obtain g1:=RInt.keeps _ _ _ w.heap.size _ _ _ (bA _) hb hB hr;obtain h1:=RInt.keeps _ _ _ w.heap.size _ _ _ (bA _) hb2 hB hr2;unfold RInt at g1 h1;rw [Nat.mul_one] at g1 h1;have hyes:=aH (fun h=>iU he.out hlt hlt2 h);have hno:=aH (rR hlt hlt2);clear he hr hr2;generalize xs[k]=x at *;generalize ys[k]=y at *;clear hs hs2;by_cases hxy:x=y
    ·have hne:(x != y)=false:=by simp [hxy]
     have hyes':=aH (hyes.out hxy);clear hyes hno hxy;go_wp2
     go_quiet (fail)
     go_wp2
     go_roundw
     case rel=>exact ⟨k+1,by omega,by go_num,gH hQ.out _,hyes'⟩
     case measure=>simp [intOf];omega
    ·have hne:(x != y)=true:=by simp [hxy]
     have hno':=aH (hno.out hxy);clear hyes hno hxy;go_wp2
     go_quiet (fail)
     go_wp2
     go_ret;exact ⟨ret_b (by simp [hno'.out]),gH hQ.out _⟩
   ·have hfin:=aH (mS he.out (by omega) HL.out);clear he hs hs2;go_wp2
    go_ret;exact ⟨ret_b (by simp [hfin.out]),hQ.out⟩
 ·have t0:((xs.length:Int) != (ys.length:Int))=true:=by simp;omega
  have hfin:Hid (¬xs=ys):=aH (fun h=>hl (by rw [h]));go_enter Tryz.func207,Tryz.ntmps207
  go_wp2
  go_ret;exact ⟨ret_b (by simp [hfin.out]),0,rfl⟩
theorem wX (A:Option Addr) (c:Nat) (xs:List Pj) (w:World) (hx:Slc 2 RPj w A c xs):
 Calls Tryz.prog 165 #[.slice A xs.length c,.func (.func 137) #[] #[]] w fun e w'=>e = .returned (.int .i64 (idxF isD 0 xs))/\Below w.heap.size w w':=by
 obtain ⟨hs,hle,hbig⟩:=hx;have hz:Hid (idxF isD 0 xs=idxF isD 0 (xs.drop 0)):=aH (by simp);go_enter Tryz.func165,Tryz.ntmps165
 go_wp2
 go_loopw [8] (fun v wr=>∃k:Nat,k<=xs.length/\v = .int .i64 k/\Below w.heap.size w wr/\Hid (idxF isD 0 xs=idxF isD k (xs.drop k))) (fun v _=>xs.length - (intOf v).toNat)
 case atStart=>exact ⟨0,by omega,rfl,aZ _ _,hz⟩
 case round=>
  clear hz;obtain ⟨k,hk,rfl,hB,he⟩:=hrel;by_cases hlt:k<xs.length
  ·obtain ⟨b,off,rfl,hb,hr⟩:=hs.at_ hlt;have hd:=aH (dA hlt);have hsz:=hB.size;have hr':=RPj.keeps _ _ _ w.heap.size _ _ _ (bA _) hb hB hr;generalize xs[k]=x at hr hr' hd;clear hr hs;by_cases hp:isD x=true
   ·have hfin:Hid (idxF isD 0 xs=k):=aH (by rw [he.out,hd.out,idxF,bD hp]);have hC:=wZ x wr w.heap.size b (off+k * 2) hr';rw [hp] at hC;obtain ⟨g1,g2⟩:=hr';have HC:=aH hC;clear he hd hp hC;go_wp2_with (go_at_call 137;refine (wY HC.out).mono ?_;rintro e w' ⟨rfl,hb1⟩)
    go_ret;exact ⟨ret_i hfin.out.symm,hB.trans (hb1.mono hsz)⟩
   ·have he':Hid (idxF isD 0 xs=idxF isD (k+1) (xs.drop (k+1))):=aH (by rw [he.out,hd.out,idxF,bB hp]);simp only [Bool.not_eq_true] at hp;have hC:=wZ x wr w.heap.size b (off+k * 2) hr';rw [hp] at hC;obtain ⟨g1,g2⟩:=hr';have HC:=aH hC;clear he hd hp hC;go_wp2_with (go_at_call 137;refine (wY HC.out).mono ?_;rintro e w' ⟨rfl,hb1⟩)
    go_roundw
    case rel=>exact ⟨k+1,by omega,by go_num,hB.trans (hb1.mono hsz),he'⟩
    case measure=>simp [intOf];omega
  ·have hd:xs.drop k=[]:=bG (by omega);have hfin:Hid (idxF isD 0 xs = -1):=aH (by rw [he.out,hd,idxF]);clear he hd hs;go_wp2
   go_ret;exact ⟨ret_i hfin.out.symm,hB⟩
theorem pE (A:Option Addr) (c:Nat) (xs:List Pj) (w:World) (hx:Slc 2 RPj w A c xs):
 Calls Tryz.prog 136 #[.slice A xs.length c,.func (.func 137) #[] #[]] w fun e w'=>e = .returned (.bool (xs.any isD))/\Below w.heap.size w w':=by
 have hC:=aH (wX A c xs w hx);have hfin:=aH (kE isD xs 0);clear hx;go_enter Tryz.func136,Tryz.ntmps136
 go_wp2_with (go_at_call 165;refine hC.out.mono ?_;rintro e w' ⟨rfl,hb1⟩)
 go_ret;exact ⟨ret_b (by rw [<- hfin.out]),hb1⟩
theorem vO (A:Option Addr) (c:Nat) (xs:List Ty) (w:World) (hx:Slc 5 RTy w A c xs):
 Calls Tryz.prog 177 #[.slice A xs.length c,.func (.func 182) #[] #[]] w fun e w'=>e = .returned (.int .i64 (idxF notMu 0 xs))/\Below w.heap.size w w':=by
 obtain ⟨hs,hle,hbig⟩:=hx;have hz:Hid (idxF notMu 0 xs=idxF notMu 0 (xs.drop 0)):=aH (by simp);go_enter Tryz.func177,Tryz.ntmps177
 go_wp2
 go_loopw [8] (fun v wr=>∃k:Nat,k<=xs.length/\v = .int .i64 k/\Below w.heap.size w wr/\Hid (idxF notMu 0 xs=idxF notMu k (xs.drop k))) (fun v _=>xs.length - (intOf v).toNat)
 case atStart=>exact ⟨0,by omega,rfl,aZ _ _,hz⟩
 case round=>
  clear hz;obtain ⟨k,hk,rfl,hB,he⟩:=hrel;by_cases hlt:k<xs.length
  ·obtain ⟨b,off,rfl,hb,hr⟩:=hs.at_ hlt;have hd:=aH (dA hlt);have hsz:=hB.size;have hr':=RTy.keeps _ _ _ w.heap.size _ _ _ (bA _) hb hB hr;generalize xs[k]=x at hr hr' hd;clear hr hs;by_cases hp:notMu x=true
   ·have hfin:Hid (idxF notMu 0 xs=k):=aH (by rw [he.out,hd.out,idxF,bD hp]);have hC:=vQ x wr w.heap.size b (off+k * 5) hr';rw [hp] at hC;obtain ⟨g1,g2,g3,g4,gA,gc,g5,gl,gm,gs⟩:=hr';have HC:=aH hC;clear he hd hp hC;go_wp2_with (go_at_call 182;refine (vP HC.out).mono ?_;rintro e w' ⟨rfl,hb1⟩)
    go_ret;exact ⟨ret_i hfin.out.symm,hB.trans (hb1.mono hsz)⟩
   ·have he':Hid (idxF notMu 0 xs=idxF notMu (k+1) (xs.drop (k+1))):=aH (by rw [he.out,hd.out,idxF,bB hp]);simp only [Bool.not_eq_true] at hp;have hC:=vQ x wr w.heap.size b (off+k * 5) hr';rw [hp] at hC;obtain ⟨g1,g2,g3,g4,gA,gc,g5,gl,gm,gs⟩:=hr';have HC:=aH hC;clear he hd hp hC;go_wp2_with (go_at_call 182;refine (vP HC.out).mono ?_;rintro e w' ⟨rfl,hb1⟩)
    go_roundw
    case rel=>exact ⟨k+1,by omega,by go_num,hB.trans (hb1.mono hsz),he'⟩
    case measure=>simp [intOf];omega
  ·have hd:xs.drop k=[]:=bG (by omega);have hfin:Hid (idxF notMu 0 xs = -1):=aH (by rw [he.out,hd,idxF]);clear he hd hs;go_wp2
   go_ret;exact ⟨ret_i hfin.out.symm,hB⟩
theorem oW (A:Option Addr) (c:Nat) (xs:List Ty) (w:World) (hx:Slc 5 RTy w A c xs):
 Calls Tryz.prog 181 #[.slice A xs.length c,.func (.func 182) #[] #[]] w fun e w'=>e = .returned (.bool (xs.any notMu))/\Below w.heap.size w w':=by
 have hC:=aH (vO A c xs w hx);have hfin:=aH (kE notMu xs 0);clear hx;go_enter Tryz.func181,Tryz.ntmps181
 go_wp2_with (go_at_call 177;refine hC.out.mono ?_;rintro e w' ⟨rfl,hb1⟩)
 go_ret;exact ⟨ret_b (by rw [<- hfin.out]),hb1⟩
def isPre (p q:Plc):Bool:=decide (p.loc=q.loc/\p.proj.length<=q.proj.length/\p.proj=q.proj.take p.proj.length)
theorem bel2 (w:World) (o o':Obj):Below w.heap.size w ((w.alloc o).alloc o'):=((aZ _ _).alloc (bA _) _).alloc (by simp) _
theorem Slc.takeN {α : Type} {k:Nat} {R:Rd α} {w:World} {A:Option Addr} {c:Nat} {xs:List α} (h:Slc k R w A c xs) (n:Nat):Slc k R w A c (xs.take n):=
 ⟨h.sl.take n,by have:=h.le;rw [cO];omega,h.big⟩
theorem wF (p q:Plc) (A B:Option Addr) (c d:Nat) (w:World) (hx:Slc 2 RPj w A c p.proj) (hy:Slc 2 RPj w B d q.proj):
 Calls Tryz.prog 94 #[.agg #[.int .i64 p.loc,.slice A p.proj.length c],.agg #[.int .i64 q.loc,.slice B q.proj.length d]] w fun e w'=>e = .returned (.bool (isPre p q))/\Below w.heap.size w w':=by
 have hle:=hx.le;have hbig:=hx.big;have hle2:=hy.le;have hbig2:=hy.big;by_cases h1:p.loc=q.loc
 ·by_cases h2:p.proj.length<=q.proj.length
  ·have t1:(p.loc == q.loc)=true:=by simp [h1]
   have hlen:(q.proj.take p.proj.length).length=p.proj.length:=by rw [cO];omega
   have hC:=nQ A B c d p.proj (q.proj.take p.proj.length);rw [hlen] at hC;have hfin:Hid (decide (p.proj=q.proj.take p.proj.length)=isPre p q):=aH (by simp [isPre,h1,h2]);have HC:=aH (fun W (hb:Below w.heap.size w W)=>hC W (hx.keep RPj.keeps hb) ((hy.takeN _).keep RPj.keeps hb));clear hC hlen hx hy h1;go_enter Tryz.func94,Tryz.ntmps94
   go_wp2_with fail
   have hB:=bel2 w (.cells #[.int .i64 p.loc,.slice A p.proj.length c] 36) (.cells #[.int .i64 q.loc,.slice B q.proj.length d] 36);go_quiet ((go_at_call 99;exact Calls.quiet_of (HC.out _ (aI hB _))))
   go_wp2
   go_ret;exact ⟨ret_b hfin.out,aI hB _⟩
  ·have t1:(p.loc == q.loc)=true:=by simp [h1]
   have hd:decide ((p.proj.length:Int)<=(q.proj.length:Int))=false:=by simp;omega
   have hfin:Hid (isPre p q=false):=aH (by simp [isPre,h2]);clear hx hy h1;go_enter Tryz.func94,Tryz.ntmps94
   go_wp2_with fail
   have hB:=bel2 w (.cells #[.int .i64 p.loc,.slice A p.proj.length c] 36) (.cells #[.int .i64 q.loc,.slice B q.proj.length d] 36);go_quiet (fail)
   go_wp2
   go_ret;exact ⟨ret_b hfin.out.symm,aI hB _⟩
 ·have t1:(p.loc == q.loc)=false:=by simp [h1]
  have hfin:Hid (isPre p q=false):=aH (by simp [isPre,h1]);clear hx hy h1;go_enter Tryz.func94,Tryz.ntmps94
  go_wp2_with fail
  have hB:=bel2 w (.cells #[.int .i64 p.loc,.slice A p.proj.length c] 36) (.cells #[.int .i64 q.loc,.slice B q.proj.length d] 36);go_quiet (fail)
  go_wp2
  go_ret;exact ⟨ret_b hfin.out.symm,aI hB _⟩
theorem wT (p q:Plc) (A B:Option Addr) (c d:Nat) (w:World) (hx:Slc 2 RPj w A c p.proj) (hy:Slc 2 RPj w B d q.proj):
 Calls Tryz.prog 70 #[.agg #[.int .i64 p.loc,.slice A p.proj.length c],.agg #[.int .i64 q.loc,.slice B q.proj.length d]] w fun e w'=>e = .returned (.bool (decide (p=q)))/\Below w.heap.size w w':=by
 have hB:=bel2 w (.cells #[.int .i64 p.loc,.slice A p.proj.length c] 36) (.cells #[.int .i64 q.loc,.slice B q.proj.length d] 36);by_cases h1:p.loc=q.loc
 ·have t1:(p.loc == q.loc)=true:=by simp [h1]
  have HC:=aH (nQ A B c d p.proj q.proj _ (hx.keep RPj.keeps hB) (hy.keep RPj.keeps hB));have hfin:Hid (decide (p.proj=q.proj)=decide (p=q)):=aH (by obtain ⟨l,ps⟩:=p;obtain ⟨m,qs⟩:=q;simp at h1;simp [h1]);clear hx hy h1;go_enter Tryz.func70,Tryz.ntmps70
  go_wp2_with (go_at_call 99;refine HC.out.mono ?_;rintro e w' ⟨rfl,q,rfl⟩)
  go_ret;exact ⟨ret_b hfin.out,aI hB _⟩
 ·have t1:(p.loc == q.loc)=false:=by simp [h1]
  have hfin:Hid (decide (p=q)=false):=aH (by obtain ⟨l,ps⟩:=p;obtain ⟨m,qs⟩:=q;simp at h1;simp [h1]);clear hx hy h1;go_enter Tryz.func70,Tryz.ntmps70
  go_wp2_with fail
  go_ret;exact ⟨ret_b hfin.out.symm,hB⟩
def hasD (ps:List Pj) (n:Int):Bool:=(ps.drop n.toNat).any isD
def cutA (A:Option Addr) (c j k:Nat):Option Addr:=if c=j then A else A.map (·.add (j * k))
theorem Slc.dropN {α : Type} {k:Nat} {R:Rd α} {w:World} {A:Option Addr} {c:Nat} {xs:List α} (h:Slc k R w A c xs) (j:Nat) (hj:j<=xs.length):Slc k R w (cutA A c j k) (c - j) (xs.drop j):=by
 refine ⟨fun hn=>?_,by have:=h.le;rw [List.length_drop];omega,by have:=h.big;omega⟩;rw [List.length_drop] at hn;have hle:=h.le;obtain ⟨b,off,rfl,hb,hx⟩:=h.sl (by omega);refine ⟨b,off+j * k,?_,hb,fun i x hi=>?_⟩
 ·unfold cutA;rw [bB (by omega)];simp only [Option.map_some,Addr.add];split
  ·rename_i h0;rw [h0];simp
  ·rfl
 ·rw [List.getElem?_drop] at hi;have:=hx _ x hi;rw [Nat.add_mul,<- Nat.add_assoc] at this;exact this
theorem uL {P:Program} (t e:TypeId) (A:Option Addr) (n c j k:Nat) (ht:P.underlying t=some (.slice e)) (hk:∀w,(sizeOf e).run P w = .ok k w) (hj:j<=n) (w:World):
 (Instr.slice t (.slice A n c) (some (.int .i64 (j:Int))) none none).run P w = .ok (.slice (cutA A c j k) (n - j) (c - j)) w:=by
 have hb:=run_sliceBound (P:=P) (w:=w) .i64 (j:Int) n .sliceB (by omega) (by omega);simp only [bX] at hb;simp [Instr.slice,run_underlying ht,Instr.sliceBounds,hb,hk,cutA]
theorem wM (l:Int) (len:Nat) (n:Int) (jj:Int) (A:Option Addr) (c:Nat) (w:World) (A':Option Addr) (m c':Nat) (r:Bool) (hlen:len<=9223372036854775807)
 (hsl:∀W,(Instr.slice 34 (.slice A len c) (some (.int .i64 jj)) none none).run Tryz.prog W = .ok (.slice A' m c') W)
 (HC:Hid (Calls Tryz.prog 136 #[.slice A' m c',.func (.func 137) #[] #[]] (w.alloc (.cells #[.int .i64 l,.slice A len c] 36)) fun e w'=>e = .returned (.bool r)/\Below (w.alloc (.cells #[.int .i64 l,.slice A len c] 36)).heap.size (w.alloc (.cells #[.int .i64 l,.slice A len c] 36)) w'))
 (hn:(n<0/\jj=0)\/(0<=n/\n<=len/\jj=n)\/(len<n/\jj=len)):
 Calls Tryz.prog 95 #[.agg #[.int .i64 l,.slice A len c],.int .i64 n] w fun e w'=>e = .returned (.bool r)/\Below w.heap.size w w':=by
 have hB:Below w.heap.size w (w.alloc (.cells #[.int .i64 l,.slice A len c] 36)):=(aZ _ _).alloc (bA _) _;rcases hn with ⟨h1,h2⟩ | ⟨h1,h2,h3⟩ | ⟨h1,h2⟩
 ·subst h2;go_enter Tryz.func95,Tryz.ntmps95
  go_wp2_with (go_at_call 136;refine HC.out.mono ?_;rintro e w' ⟨rfl,hb1⟩)
  go_ret;exact ⟨rfl,hB.trans (hb1.mono hB.size)⟩
 ·subst h3;go_enter Tryz.func95,Tryz.ntmps95
  go_wp2_with (go_at_call 136;refine HC.out.mono ?_;rintro e w' ⟨rfl,hb1⟩)
  go_ret;exact ⟨rfl,hB.trans (hb1.mono hB.size)⟩
 ·subst h2;go_enter Tryz.func95,Tryz.ntmps95
  go_wp2_with (go_at_call 136;refine HC.out.mono ?_;rintro e w' ⟨rfl,hb1⟩)
  go_ret;exact ⟨rfl,hB.trans (hb1.mono hB.size)⟩
theorem qC (l:Int) (ps:List Pj) (n:Int) (j:Nat) (A:Option Addr) (c:Nat) (w:World) (hx:Slc 2 RPj w A c ps) (hj:j<=ps.length) (hn:(n<0/\j=0)\/(0<=n/\n<=ps.length/\n=j)\/(ps.length<n/\j=ps.length)):
 Calls Tryz.prog 95 #[.agg #[.int .i64 l,.slice A ps.length c],.int .i64 n] w fun e w'=>e = .returned (.bool ((ps.drop j).any isD))/\Below w.heap.size w w':=by
 have hle:=hx.le;have hbig:=hx.big;have hB:Below w.heap.size w (w.alloc (.cells #[.int .i64 l,.slice A ps.length c] 36)):=(aZ _ _).alloc (bA _) _;have hC:=pE (cutA A c j 2) (c - j) (ps.drop j) _ ((hx.dropN j hj).keep RPj.keeps hB);rw [List.length_drop] at hC;exact wM l ps.length n j A c w _ _ _ _ (by omega) (uL (P:=Tryz.prog) 34 40 A ps.length c j 2 Tryz.underlying34 Tryz.sizeOf40 hj) (aH hC) (by omega)
theorem kF (p:Plc) (n:Int) (A:Option Addr) (c:Nat) (w:World) (hx:Slc 2 RPj w A c p.proj):
 Calls Tryz.prog 95 #[.agg #[.int .i64 p.loc,.slice A p.proj.length c],.int .i64 n] w fun e w'=>e = .returned (.bool (hasD p.proj n))/\Below w.heap.size w w':=by
 unfold hasD;rcases Int.lt_or_le n 0 with h | h
 ·have h0:n.toNat=0:=by omega
  rw [h0];exact qC p.loc p.proj n 0 A c w hx (by omega) (.inl ⟨h,rfl⟩)
 ·by_cases h1:n<=p.proj.length
  ·exact qC p.loc p.proj n n.toNat A c w hx (by omega) (.inr (.inl ⟨h,h1,by omega⟩))
  ·have h0:p.proj.drop n.toNat=p.proj.drop p.proj.length:=by rw [bG (by omega),List.drop_length]
   rw [h0];exact qC p.loc p.proj n p.proj.length A c w hx (by omega) (.inr (.inr ⟨by omega,rfl⟩))
def prT (t:Ty) (x:Pj):Int × Int:=
 if x.kind=0/\t.kind=3 then (t.elem,0)
 else if x.kind=1/\t.kind=4 then (if x.field<t.flds.length then (t.flds.getD x.field.toNat 0,0) else (0,3))
 else (0,22)
theorem pV (ts:List Ty) (i:Nat) (t:Ty) (x:Pj) (A:Option Addr) (c:Nat) (w:World) (hx:Slc 5 RTy w A c ts) (hi:i<ts.length) (ht:ts[i]=t) (hf:x.kind=1->0<=x.field):
 Calls Tryz.prog 211 #[.slice A ts.length c,.int .i64 i,.agg #[.int .i64 x.kind,.int .i64 x.field]] w fun e w'=>e = .returned (.agg #[.int .i64 (prT t x).1,.int .i64 (prT t x).2])/\Below w.heap.size w w':=by
 obtain ⟨hs,hle,hbig⟩:=hx;obtain ⟨b,off,rfl,hb,hr⟩:=hs.at_ hi;rw [ht] at hr;clear ht hs;obtain ⟨g1,g2,g3,g4,A2,c2,g5,hl2,hm2,hs2⟩:=hr;by_cases h0:x.kind=0
 ·have t1:(x.kind == 0)=true:=by simp [h0]
  have t1':(x.kind == 1)=false:=by simp [h0]
  by_cases h1:t.kind=3
  ·have e1:Hid ((prT t x).1=t.elem):=aH (by simp [prT,h0,h1]);have e2:Hid ((prT t x).2=0):=aH (by simp [prT,h0,h1]);have t2:(t.kind == 3)=true:=by simp [h1]
   clear h0 h1 hs2 hf;go_enter Tryz.func211,Tryz.ntmps211
   go_wp2
   exact bodyPost_ret (by simp [results,Tryz.results211,go_sem];rfl) rfl ⟨by rw [e1.out,e2.out],aJ⟩
  ·have e1:Hid ((prT t x).1=0):=aH (by simp [prT,h0,h1]);have e2:Hid ((prT t x).2=22):=aH (by simp [prT,h0,h1]);have t2:(t.kind == 3)=false:=by simp [h1]
   clear h0 h1 hs2 hf;go_enter Tryz.func211,Tryz.ntmps211
   go_wp2
   exact bodyPost_ret (by simp [results,Tryz.results211,go_sem];rfl) rfl ⟨by rw [e1.out,e2.out],aJ⟩
 ·have t1:(x.kind == 0)=false:=by simp [h0]
  by_cases h1:x.kind=1
  ·have t1':(x.kind == 1)=true:=by simp [h1]
   have hf0:=hf h1;by_cases h2:t.kind=4
   ·have t2:(t.kind == 4)=true:=by simp [h2]
    by_cases h3:x.field<t.flds.length
    ·obtain ⟨kd,fd⟩:=x;simp only [] at *;obtain ⟨j,rfl⟩:=bI hf0;have h4:j<t.flds.length:=(by omega);obtain ⟨b3,off3,rfl,hb3,hr3⟩:=hs2.at_ h4;have e1:Hid ((prT t ⟨kd,j⟩).1=t.flds[j]):=aH (by simp [prT,h1,h2,h4]);have e2:Hid ((prT t ⟨kd,j⟩).2=0):=aH (by simp [prT,h1,h2,h4]);generalize t.flds[j]=y at *;unfold RInt at hr3;rw [Nat.mul_one] at hr3;have hbs:=eB hb3;clear h0 h1 h2 hs2 hf hf0;go_enter Tryz.func211,Tryz.ntmps211
     go_wp2
     exact bodyPost_ret (by simp [results,Tryz.results211,go_sem];rfl) rfl ⟨by rw [e1.out,e2.out],aJ⟩
    ·have e1:Hid ((prT t x).1=0):=aH (by simp [prT,h1,h2,h3]);have e2:Hid ((prT t x).2=3):=aH (by simp [prT,h1,h2,h3]);have hd:decide (x.field<(t.flds.length:Int))=false:=(by simpa using h3);clear h0 h1 h2 hs2 hf;go_enter Tryz.func211,Tryz.ntmps211
     go_wp2
     exact bodyPost_ret (by simp [results,Tryz.results211,go_sem];rfl) rfl ⟨by rw [e1.out,e2.out],aJ⟩
   ·have e1:Hid ((prT t x).1=0):=aH (by simp [prT,h1,h2]);have e2:Hid ((prT t x).2=22):=aH (by simp [prT,h1,h2]);have t2:(t.kind == 4)=false:=by simp [h2]
    clear h0 h1 h2 hs2 hf;go_enter Tryz.func211,Tryz.ntmps211
    go_wp2
    exact bodyPost_ret (by simp [results,Tryz.results211,go_sem];rfl) rfl ⟨by rw [e1.out,e2.out],aJ⟩
  ·have t1':(x.kind == 1)=false:=by simp [h1]
   have e1:Hid ((prT t x).1=0):=aH (by simp [prT,h1,h0]);have e2:Hid ((prT t x).2=22):=aH (by simp [prT,h1,h0]);clear h0 h1 hs2 hf;go_enter Tryz.func211,Tryz.ntmps211
   go_wp2
   exact bodyPost_ret (by simp [results,Tryz.results211,go_sem];rfl) rfl ⟨by rw [e1.out,e2.out],aJ⟩
end
section
open Go.RowKit
variable {F:Fence} {n:Nat} {P:Program}
def lets (T:TypeId->Bool):Obj->Bool
 | .cells _ e _=>T e
 | _=>true
structure Turn (D:Nat) (T:TypeId->Bool) (A B:World):Prop where
 os:B.os=A.os
 tape:B.tape=A.tape
 output:B.output=A.output
 size:A.heap.size<=B.heap.size
 low:∀k,k<D->k<A.heap.size->B.heap[k]?=A.heap[k]?
 same:∀(k:Nat) (o:Obj),A.heap[k]?=some o->lets T o=false->B.heap[k]?=some o
theorem Turn.refl (D:Nat) (T:TypeId->Bool) (A:World):Turn D T A A:=⟨rfl,rfl,rfl,bA _,fun _ _ _=>rfl,fun _ _ h _=>h⟩
theorem Turn.trans {D:Nat} {T:TypeId->Bool} {A B C:World} (h:Turn D T A B) (k:Turn D T B C):Turn D T A C:=
 ⟨k.os.trans h.os,k.tape.trans h.tape,k.output.trans h.output,cA h.size k.size,fun i hi hA=>(k.low i hi (bP hA h.size)).trans (h.low i hi hA),fun i o hA ho=>k.same i o (h.same i o hA ho) ho⟩
theorem Turn.mono {D D':Nat} {T:TypeId->Bool} {A B:World} (h:Turn D T A B) (hd:D'<=D):Turn D' T A B:=⟨h.os,h.tape,h.output,h.size,fun k hk hA=>h.low k (by omega) hA,h.same⟩
theorem Turn.of_below {D:Nat} {T:TypeId->Bool} {A B:World} (h:Below A.heap.size A B):Turn D T A B:=
 ⟨h.os,h.tape,h.output,h.size,fun k _ hA=>h.block k hA,fun k _o hA _=>(h.block k (Array.getElem?_eq_some_iff.1 hA).1).trans hA⟩
theorem Turn.putObj {D:Nat} {T:TypeId->Bool} {A:World} {l:Nat} {o:Obj} (o':Obj) (hl:A.heap[l]?=some o) (hD:D<=l) (ho:lets T o=true):Turn D T A (A.putObj l o'):=
 ⟨rfl,rfl,rfl,by simp,fun k hk _=>World.putObj_heap_other (by omega),fun k o1 hA h1=>by
   refine (World.putObj_heap_other (fun e=>?_)).trans hA;subst e;rw [hl] at hA;injection hA with hA
   rw [hA,h1] at ho
   cases ho⟩
theorem Turn.setCell {D:Nat} {T:TypeId->Bool} {A:World} {p:Addr} (u:Value) {cs:Array Value} {e:TypeId} {z:Nat × Nat} (hl:A.heap[p.block]?=some (.cells cs e z)) (hD:D<=p.block) (ho:T e=true):Turn D T A (A.setCell p u):=
 ⟨rfl,rfl,rfl,by simp,fun k hk _=>bJ A p u k (by omega),fun k o1 hA h1=>by
   refine (bJ A p u k (fun e'=>?_)).trans hA;subst e';rw [hl] at hA;injection hA with hA
   rw [<- hA] at h1
   simp [lets,ho] at h1⟩
theorem Turn.below {D n₀ : Nat} {T:TypeId->Bool} {w A B:World} (h:Turn D T A B) (hn:n₀ <= D) (hs:n₀ <= A.heap.size) (hb:Below n₀ w A):Below n₀ w B:=
 hb.trans ⟨h.os,h.tape,h.output,h.size,fun k hk=>h.low k (by omega) (by omega)⟩
theorem Turn.block_low {D:Nat} {T:TypeId->Bool} {A B:World} (h:Turn D T A B) {k:Nat} {o:Obj} (hp:k<D) (hc:A.heap[k]?=some o):B.heap[k]?=some o:=
 (h.low k hp (Array.getElem?_eq_some_iff.1 hc).1).trans hc
theorem Turn.grownBy {D:Nat} {T:TypeId->Bool} {A B:World} (h:Turn D T A B) {base:Nat} {e:TypeId} {size:Nat} {v:Value} {m:Nat} {xs:List Value} (hT:T e=false) (ho:A.ownsRow base e size v m xs):B.ownsRow base e size v m xs:=by
 refine ⟨ho.1,?_⟩;rcases ho.2 with hn | ⟨g,cap,cur,hv,hg,hh,rest⟩
 ·exact .inl hn
 ·exact .inr ⟨g,cap,cur,hv,hg,h.same g _ hh (by simpa [lets] using hT),rest⟩
structure Kb (N:Nat->Prop) (D:Nat) (T:TypeId->Bool) (A B:World):Prop where
 os:B.os=A.os
 tape:B.tape=A.tape
 output:B.output=A.output
 size:A.heap.size<=B.heap.size
 low:∀k,N k->k<A.heap.size->B.heap[k]?=A.heap[k]?
 same:∀(k:Nat) (o:Obj),D<=k->A.heap[k]?=some o->lets T o=true->B.heap[k]?=some o
section
variable {N:Nat->Prop} {D:Nat} {T:TypeId->Bool} {A B C:World}
theorem Kb.refl (N:Nat->Prop) (D:Nat) (T:TypeId->Bool) (A:World):Kb N D T A A:=⟨rfl,rfl,rfl,bA _,fun _ _ _=>rfl,fun _ _ _ h _=>h⟩
theorem Kb.trans (h:Kb N D T A B) (k:Kb N D T B C):Kb N D T A C:=
 ⟨k.os.trans h.os,k.tape.trans h.tape,k.output.trans h.output,cA h.size k.size,fun i hN hi=>(k.low i hN (bP hi h.size)).trans (h.low i hN hi),fun i o hD hA ho=>k.same i o hD (h.same i o hD hA ho) ho⟩
theorem Kb.mono {D':Nat} (h:Kb N D T A B) (hd:D<=D'):Kb N D' T A B:=⟨h.os,h.tape,h.output,h.size,h.low,fun k o hk=>h.same k o (by omega)⟩
theorem Kb.below (h:Kb N D T A B) {n₀ : Nat} (hN:∀k,k<n₀ -> N k) (hs:n₀ <= A.heap.size):Below n₀ A B:=⟨h.os,h.tape,h.output,h.size,fun k hk=>h.low k (hN k hk) (by omega)⟩
theorem Kb.of_below (h:Below A.heap.size A B):Kb N D T A B:=⟨h.os,h.tape,h.output,h.size,fun k _ hA=>h.block k hA,fun k _o _ hA _=>(h.block k (Array.getElem?_eq_some_iff.1 hA).1).trans hA⟩
theorem Kb.setLow (h:Kb N D T A B) {p:Addr} (u:Value) (h0:¬N p.block) (hD:p.block<D):Kb N D T A (B.setCell p u):=
 ⟨h.os,h.tape,h.output,by simpa using h.size,fun k hN hA=>(bJ B p u k (fun e=>h0 (e ▸ hN))).trans (h.low k hN hA),fun k o hk hA ho=>(bJ B p u k (by omega)).trans (h.same k o hk hA ho)⟩
theorem Kb.alloc (h:Kb N D T A B) (o:Obj):Kb N D T A (B.alloc o):=h.trans (Kb.of_below ((aZ _ _).alloc (bA _) _))
theorem Kb.then_ (h:Kb N D T A B) (hb:Below B.heap.size B C):Kb N D T A C:=h.trans (Kb.of_below hb)
theorem Kb.drewN (h:Kb N D T A B) (m:Nat):Kb N D T A (B.drewN m):=⟨h.os,h.tape,h.output,h.size,h.low,h.same⟩
theorem Kb.drew (h:Kb N D T A B):Kb N D T A B.drew:=⟨h.os,h.tape,h.output,h.size,h.low,h.same⟩
theorem Kb.grown (h:Kb N D T A B) {row:Option Nat} (hg:B.grownBy C row) (hr:∀k,row=some k->(¬N k\/A.heap.size<=k)/\(k<D\/A.heap.size<=k\/∃cs e z,B.heap[k]?=some (.cells cs e z)/\T e=false)):Kb N D T A C:=
 ⟨hg.os.trans h.os,hg.tape.trans h.tape,hg.output.trans h.output,cA h.size hg.size,fun k hN hA=>(hg.block k (bP hA h.size) (fun e'=>(hr k e'.symm).1.elim (fun h1=>h1 hN) (fun h1=>by omega))).trans (h.low k hN hA),fun k o hk hA ho=>by
   have hB:=h.same k o hk hA ho;refine (hg.block k (Array.getElem?_eq_some_iff.1 hB).1 (fun e'=>?_)).trans hB;have hlt:=(Array.getElem?_eq_some_iff.1 hA).1;rcases (hr k e'.symm).2 with h1 | h1 | ⟨cs,e,z,h1,hT⟩
   ·omega
   ·omega
   ·rw [h1] at hB;injection hB with hB
    rw [<- hB] at ho
    simp [lets,hT] at ho⟩
end
structure Rec (l:Nat) (A B:World):Prop where
 os:B.os=A.os
 tape:B.tape=A.tape
 output:B.output=A.output
 size:B.heap.size=A.heap.size
 block:∀k,k≠l->B.heap[k]?=A.heap[k]?
 was:∃r,A.heap[l]?=some (.loop r)
 now:∃r,B.heap[l]?=some (.loop r)
theorem Rec.cells {l:Nat} {A B:World} (h:Rec l A B) {k:Nat} {cs:Array Value} {e:TypeId} {z:Nat × Nat} (hk:A.heap[k]?=some (.cells cs e z)):B.heap[k]?=some (.cells cs e z):=
 (h.block k (fun e'=>by subst e';obtain ⟨r,hr⟩:=h.was;rw [hk] at hr;cases hr)).trans hk
theorem Rec.cell {l:Nat} {A B:World} (h:Rec l A B) {p:Addr} {v:Value} (hc:A.cell? p=some v):B.cell? p=some v:=by
 refine (World.cell?_of_block (h.block p.block (fun e=>?_))).trans hc;obtain ⟨r,hr⟩:=h.was;unfold World.cell? at hc;rw [e,hr] at hc;cases hc
theorem Rec.frozen {l:Nat} {A B:World} (h:Rec l A B) (p:Addr):B.frozen? p=A.frozen? p:=by
 by_cases e:p.block=l
 ·obtain ⟨r,hr⟩:=h.was;obtain ⟨r',hr'⟩:=h.now;simp [World.frozen?,e,hr,hr']
 ·exact World.frozen?_of_block (h.block _ e)
theorem Rec.turn {l D:Nat} {T:TypeId->Bool} {A B:World} (h:Rec l A B) (hD:D<=l):Turn D T A B:=
 ⟨h.os,h.tape,h.output,by rw [h.size];exact bA _,fun k hk _=>h.block k (by omega),fun k o hA ho=>(h.block k (fun e=>by subst e;obtain ⟨r,hr⟩:=h.was;rw [hr] at hA;injection hA with hA;rw [<- hA] at ho;cases ho)).trans hA⟩
def SeqL {α : Type} (F:Fence) (n:Nat) (P:Program) (g:Nat) (lb:Array Value) (encs : α -> Array Value) (T:TypeId->Bool) (N:Nat->Prop) (L:List α) (w:World):Prop:=
 ∀(l:Nat) (J Jx:List α -> World->Prop) (W:World),Below w.heap.size w W->
  (∀s A B,J s A->Turn W.heap.size T A B->J s B)->(∀s A B,Jx s A->Turn W.heap.size T A B->Jx s B)->
  (∀pre x post W1,L=pre ++ x :: post->J pre W1->YieldAt F (n - 1) P l (encs x) W1 fun e W'=>
    (e = .returned (.bool true)/\J (pre ++ [x]) W'/\Kb N W.heap.size T W1 W')\/(e = .returned (.bool false)/\Jx (pre ++ [x]) W'))->
  J [] W->
  CallsIn F n P g (#[.func (.yield l) #[] #[]] ++ lb) W fun e W'=>(∃v,e = .returned v)/\(J L W'\/∃pre x post,L=pre ++ x :: post/\Jx (pre ++ [x]) W')
def rPost {α : Type} (N:Nat->Prop) (D:Nat) (T:TypeId->Bool) (I:List α -> World->Prop) (Ix:Code->List α -> World->Prop) (xs:List α) (W:World):Exit->Act->World->Prop
 | .normal,_,W'=>Kb N D T W W'/\I xs W'
 | .ret,_,W'=>Kb N D T W W'/\Ix .ret xs W'
 | .exit id,_,W'=>Kb N D T W W'/\Ix (.exit id) xs W'
 | .goto t,_,W'=>Kb N D T W W'/\Ix (.goto t) xs W'
 | .panic _,_,_=>False
 | .outgrown,_,_=>False
theorem pU {W:World} {l:Nat} {r:Loop} (r':Loop) (hl:W.heap[l]?=some (.loop r)):Rec l W (W.putObj l (.loop r')):=
 ⟨rfl,rfl,rfl,by simp,fun k hk=>World.putObj_heap_other hk,⟨r,hl⟩,⟨r',World.putObj_heap_same (Array.getElem?_eq_some_iff.1 hl).1⟩⟩
theorem fD {α : Type} {g:Operand} {ps:Array Tmp} {assign body:Code} {Q:Exit->Act->World->Prop} {a:Act} {w:World}
 (hro:F.round=none) (h1:1<=n) {gf:Nat} {lb:Array Value} (hg:a.eval g = .func (.func gf) #[] lb) (hFg:F.fn gf) (eg:∀args w,(callFunc gf args).run P w = .ok (.enter gf args) w)
 {encs : α -> Array Value} {T:TypeId->Bool} {N:Nat->Prop} {L:List α} {w0:World} (hseq:SeqL F (n - 1) P gf lb encs T N L w0) (hb0:Below w0.heap.size w0 w) (hNl:∀k,N k->k<w.heap.size) (hps:∀x,(encs x).size=ps.size)
 (I:List α -> World->Prop) (Ix:Code->List α -> World->Prop) (hI:∀s A B,I s A->Turn w.heap.size T A B->I s B) (hIx:∀c s A B,Ix c s A->Turn w.heap.size T A B->Ix c s B) (h0:I [] w)
 (hround:∀(l:Nat) (pre:List α) (x : α) (post:List α) (W:World),L=pre ++ x :: post->w.heap.size<=l->(∃r,W.heap[l]?=some (.loop r))->w.heap.size<=W.heap.size->I pre W->
   assign.wpIn (F.inRound l) (n - 1 - 1) P (Exit.then (fun a' W'=>Kb N w.heap.size T W W'/\∀W'',Rec l W' W''->body.wpIn (F.inRound l) (n - 1 - 1) P (rPost N w.heap.size T I Ix (pre ++ [x]) W'') a' W'') (fun _ _ _=>False))
    { tmps:=(ps.zip (encs x)).foldl (fun t (p,v)=>t.setIfInBounds p v) a.tmps,defers:=[] } W)
 (hdone:∀(D:Nat) (W:World),w.heap.size<=D->I L W->W.heap[D]?=some (.deferred (some []))->Q .normal { a with defers:={ target:= .collected D,args:= #[] } :: a.defers } W)
 (hstop:∀(D:Nat) (c:Code) (pre:List α) (x : α) (post:List α) (W:World),w.heap.size<=D->L=pre ++ x :: post->Ix c (pre ++ [x]) W->W.heap[D]?=some (.deferred (some []))->c.wpIn F n P Q { a with defers:={ target:= .collected D,args:= #[] } :: a.defers } W):
 (Code.rangeFunc g ps assign body).wpIn F n P Q a w:=by
 refine wpIn_rangeFunc ?_;intro fn hfn;rw [hro];obtain ⟨rec,hrec⟩:∃rec:LoopState->Option Code->Loop,rec=fun st pe=>{ state:=st,pending:=pe,fn,tmps:=a.tmps,params:=ps,assign,body,defers:=w.heap.size }:=⟨_,rfl⟩
 obtain ⟨W1,hW1⟩:∃W1,(w.alloc (.deferred (some []))).alloc (.loop (rec .ready none))=W1:=⟨_,rfl⟩
 have hL1:W1.heap[w.heap.size+1]?=some (.loop (rec .ready none)):=by
  rw [<- hW1];have:=World.alloc_heap_new (w.alloc (.deferred (some []))) (.loop (rec .ready none));rwa [bK] at this
 have hK1:W1.heap[w.heap.size]?=some (.deferred (some [])):=by
  rw [<- hW1];exact (Below.heap_alloc _ _ _ (by simp)).trans (World.alloc_heap_new w _)
 have hbw:Below w.heap.size w W1:=by rw [<- hW1];exact ((aZ _ w).alloc (bA _) _).alloc (by simp) _
 have hI1:I [] W1:=hI _ _ _ h0 (Turn.of_below hbw);have hb1:Below w0.heap.size w0 W1:=hb0.trans (hbw.mono hb0.size);have hsz:W1.heap.size=w.heap.size+2:=by rw [<- hW1];simp
 refine ⟨w.heap.size+1,[{ target:= .collected w.heap.size,args:= #[] }],W1,{ target:= .fn (.func gf) lb,args:= #[.func (.yield (w.heap.size+1)) #[] #[]] },W1,gf,
  #[.func (.yield (w.heap.size+1)) #[] #[]] ++ lb,W1,?_,?_,?_,?_,fun _=>h1,?_⟩
 ·rw [<- hW1,hrec];exact run_enterLoop_outer _ _ _ _ _
 ·simp only [resolve,hg];simp [go_sem]
 ·intro f' hf';simp [Target.leads] at hf';subst hf';exact hFg
 ·simp [invoke,go_sem,eg]
 ·refine (hseq (w.heap.size+1)
   (fun pre W=>I pre W/\W.heap[w.heap.size+1]?=some (.loop (rec .ready none))/\W.heap[w.heap.size]?=some (.deferred (some []))/\w.heap.size+2<=W.heap.size)
   (fun pre W=>∃c,Ix c pre W/\W.heap[w.heap.size+1]?=some (.loop (rec .done (some c)))/\W.heap[w.heap.size]?=some (.deferred (some [])))
   W1 hb1
   (fun s A B hs ht=>⟨hI s A B hs.1 (ht.mono (by omega)),ht.block_low (by omega) hs.2.1,ht.block_low (by omega) hs.2.2.1,cA hs.2.2.2 ht.size⟩)
   (fun s A B hs ht=>by
     obtain ⟨c,hc,hl,hk⟩:=hs
     exact ⟨c,hIx c s A B hc (ht.mono (by omega)),ht.block_low (by omega) hl,ht.block_low (by omega) hk⟩)
   ?_ ⟨hI1,hL1,hK1,by omega⟩).mono ?_
  ·rintro pre x post W hL ⟨hi,hl,hk,hws⟩;have hy:=run_yield (P:=P) (args:=encs x) hl (by rw [hrec];exact hps x);rw [hrec] at hy;refine ⟨fn,_,assign,body,hy,roundIn_of_wpIn hfn (wpIn_mono (hround _ pre x post W hL (by omega) ⟨_,hl⟩ (by omega) hi) ?_)⟩;clear hy;rintro e a1 Wa hq;cases e with
   | normal=>
     obtain ⟨hka,hbody⟩:=hq;have hla:=hka.same _ _ (by omega) hl rfl;have hkk:=hka.same _ _ (bA _) hk rfl;refine ⟨_,run_beginRound hla (by rw [hrec]),wpIn_mono (hbody _ (pU _ hla)) ?_⟩;have hlb:(Wa.putObj (w.heap.size+1) (.loop { rec .ready none with state:= .busy })).heap[w.heap.size+1]?=some (.loop { rec .ready none with state:= .busy }):=World.putObj_heap_same (Array.getElem?_eq_some_iff.1 hla).1;have hkb:(Wa.putObj (w.heap.size+1) (.loop { rec .ready none with state:= .busy })).heap[w.heap.size]?=some (.deferred (some [])):=(World.putObj_heap_other (by omega)).trans hkk;have hsb:w.heap.size+2<=(Wa.putObj (w.heap.size+1) (.loop { rec .ready none with state:= .busy })).heap.size:=by simp;exact cA hws hka.size
     have fin:∀(jump:Option Code) (W3:World),Kb N w.heap.size T (Wa.putObj (w.heap.size+1) (.loop { rec .ready none with state:= .busy })) W3->
      (Instr.endRound (w.heap.size+1) jump).run P W3 = .ok (.bool jump.isNone) (W3.putObj (w.heap.size+1) (.loop (rec (if jump.isNone then .ready else .done) jump)))/\
      W3.heap[w.heap.size+1]?=some (.loop { rec .ready none with state:= .busy })/\
      (W3.putObj (w.heap.size+1) (.loop (rec (if jump.isNone then .ready else .done) jump))).heap[w.heap.size+1]?=some (.loop (rec (if jump.isNone then .ready else .done) jump))/\
      (W3.putObj (w.heap.size+1) (.loop (rec (if jump.isNone then .ready else .done) jump))).heap[w.heap.size]?=some (.deferred (some []))/\
      Kb N W1.heap.size T W (W3.putObj (w.heap.size+1) (.loop (rec (if jump.isNone then .ready else .done) jump)))/\
      w.heap.size+2<=(W3.putObj (w.heap.size+1) (.loop (rec (if jump.isNone then .ready else .done) jump))).heap.size:=fun jump W3 hk3=>by
      have hl3:=hk3.same _ _ (by omega) hlb rfl;have hr:=run_endRound (P:=P) jump hl3;rw [hrec] at hr hl3 ⊢
      have kput:∀(X:World) (o o':Obj),X.heap[w.heap.size+1]?=some o->Kb N W1.heap.size T X (X.putObj (w.heap.size+1) o'):=fun X o o' hX=>
       ⟨rfl,rfl,rfl,by simp,fun k hk _=>World.putObj_heap_other (by have:=hNl k hk;omega),fun k o1 hk hX1 _=>(World.putObj_heap_other (by omega)).trans hX1⟩
      rw [hrec] at hk3 hla;refine ⟨hr,hl3,World.putObj_heap_same (Array.getElem?_eq_some_iff.1 hl3).1,(World.putObj_heap_other (by omega)).trans (hk3.same _ _ (bA _) (by rw [hrec] at hkb;exact hkb) rfl),?_,?_⟩
      ·exact (((hka.mono (by omega)).trans (kput _ _ _ hla)).trans (hk3.mono (by omega))).trans (kput _ _ _ hl3)
      ·have h5:=hk3.size;rw [World.putObj_size] at h5 ⊢;exact cA (by rw [World.putObj_size] at hsb;exact hsb) h5
     rintro e a3 W3 hp;cases e with
     | normal=>
       obtain ⟨hk3,hi3⟩:=hp;obtain ⟨hr,hl3,hl4,hk4,hk5,hs5⟩:=fin none W3 hk3;exact ⟨_,_,hr,.inl ⟨rfl,⟨hI _ _ _ hi3 (Turn.putObj _ hl3 (by omega) rfl),hl4,hk4,hs5⟩,hk5⟩⟩
     | ret=>
       obtain ⟨hk3,hi3⟩:=hp;obtain ⟨hr,hl3,hl4,hk4,hk5,hs5⟩:=fin (some .ret) W3 hk3;exact ⟨_,_,hr,.inr ⟨rfl,.ret,hIx _ _ _ _ hi3 (Turn.putObj _ hl3 (by omega) rfl),hl4,hk4⟩⟩
     | exit id=>
       obtain ⟨hk3,hi3⟩:=hp;obtain ⟨hr,hl3,hl4,hk4,hk5,hs5⟩:=fin (some (.exit id)) W3 hk3;exact ⟨_,_,hr,.inr ⟨rfl,.exit id,hIx _ _ _ _ hi3 (Turn.putObj _ hl3 (by omega) rfl),hl4,hk4⟩⟩
     | goto t=>
       obtain ⟨hk3,hi3⟩:=hp;obtain ⟨hr,hl3,hl4,hk4,hk5,hs5⟩:=fin (some (.goto t)) W3 hk3;exact ⟨_,_,hr,.inr ⟨rfl,.goto t,hIx _ _ _ _ hi3 (Turn.putObj _ hl3 (by omega) rfl),hl4,hk4⟩⟩
     | panic ch=>exact hp.elim
     | outgrown=>exact hp.elim
   | exit id=>exact hq.elim
   | goto t=>exact hq.elim
   | ret=>exact hq.elim
   | panic chain=>exact hq.elim
   | outgrown=>exact hq.elim
  ·rintro e W2 ⟨⟨v,rfl⟩,(⟨hi,hl,hk,_⟩ | ⟨pre,x,post,hL,c,hi,hl,hk⟩)⟩
   ·exact ⟨none,_,by have:=run_endLoop (P:=P) hl (by rw [hrec];simp);rw [hrec] at this;exact this,hdone _ _ (bA _) (hI _ _ _ hi (Turn.putObj _ hl (by omega) rfl)) ((World.putObj_heap_other (by omega)).trans hk)⟩
   ·exact ⟨some c,_,by have:=run_endLoop (P:=P) hl (by rw [hrec];simp);rw [hrec] at this;exact this,hstop _ c pre x post _ (bA _) hL (hIx c _ _ _ hi (Turn.putObj _ hl (by omega) rfl)) ((World.putObj_heap_other (by omega)).trans hk)⟩
def iS (ops:Array Oper):Bool:=ops.all fun o=>match o.op with | .defer _=>false | _=>true
theorem oV {ops:Array Oper} (h:iS ops=true) {i:Nat} {o:Oper} (hi:ops[i]?=some o):∀c,o.op ≠ .defer c:=by
 intro c hc;unfold iS at h;rw [Array.all_eq_true] at h;obtain ⟨hlt,he⟩:=Array.getElem?_eq_some_iff.1 hi;have:=h i hlt;rw [he,hc] at this;cases this
theorem iZ {ops:Array Oper} {Q:Exit->Act->World->Prop} {r m:Nat} (hnd:iS ops=true) (hout:¬LetsOut Q):
 ∀(l:List Nat) (a:Act) (w:World),wpOps P ops Q l a w->wpOpsIn (Fence.wide.inRound r) m P ops Q l a w:=by
 intro l;induction l with
 | nil=>intro a w h;exact h
 | cons i rest ih=>
   intro a w h;simp only [wpOps,wpOpsIn] at h ⊢;cases ho:ops[i]? with
   | none=>simp only [ho] at h ⊢;exact ih _ _ h
   | some o=>
     simp only [ho] at h ⊢;by_cases hw:Region.wanted o (yielded ops a.tmps)=true
     ·rw [bD hw] at h ⊢;rcases h with h | h
      ·refine ⟨fun _ _=>trivial,?_⟩;show o.uponIn _ m P a _ Q ((o.semAt (some r) a.eval).run P w);rw [Oper.semAt_some r a.eval o (oV hnd ho)];unfold Oper.wp at h;generalize (execOp a.eval o).run P w=res at h ⊢;cases res with
       | ok nx w'=>
         cases nx with
         | value v=>exact ih _ _ h
         | skip=>exact ih _ _ h
         | defer d=>exact ih _ _ h
         | enter f args=>
           refine ⟨(fun h0=>nomatch h0),callsIn_wide.2 (Calls.mono h fun e w'' he=>?_)⟩;cases e with
           | returned v=>exact ih _ _ he
           | panicked c=>exact he
           | outgrown=>exact he
         | row row args=>
           refine ⟨(fun h0=>nomatch h0),fun c cs _=>?_⟩;obtain ⟨v,w'',hR,hs⟩:=h c cs;exact ⟨v,w'',ih _ _ hR,stepsIn_wide.2 hs⟩
         | _=>exact h.elim
       | halt x w'=>
         cases x with
         | panic v=>exact h
         | _=>exact h.elim
      ·exact absurd h.2 hout
     ·rw [bB hw] at h ⊢;exact ⟨fun _ _=>trivial,ih _ _ h⟩
theorem tK {ops:Array Oper} {Q:Exit->Act->World->Prop} {r m:Nat} {id:Nat} {a:Act} {w:World} (hm:P.follows .mixedOrders=true) (hnd:iS ops=true) (hout:¬LetsOut Q)
 (h:wpAny P .any ops Q ops.size (Array.replicate ops.size false) a { w with drawn:=w.drawn+1 }):(Code.region id ops true).wpIn (Fence.wide.inRound r) m P Q a w:=
 wpIn_region_draw fun t=>by
  simp only [Region.schedule,hm,Bool.true_or,if_true];exact iZ hnd hout _ _ _ (wpAny_sound ops.size t _ a _ h)
end
section
open Go.RowKit
attribute [local go_sem] Oper.semAt_some
structure Stp where
 num:Nat
 idx:Int
 err:Int
def encS (s:Stp):Array Value:= #[.int .i64 s.num,.agg #[.int .i64 s.idx,.int .i64 s.err]]
def T54:TypeId->Bool:=fun e=>e == 264
def walkS (ts:List Ty):Int->Nat->List Pj->List Stp
 | i,k,[]=>[⟨k,i,0⟩]
 | i,k,x :: r=>
   ⟨k,i,0⟩ :: match ts[i.toNat]? with
     | none=>[]
     | some t=>if (prT t x).2=0 then walkS ts (prT t x).1 (k+1) r else [⟨k+1,(prT t x).1,(prT t x).2⟩]
def pth (ts:List Ty) (ls:List Lc) (l:Int) (ps:List Pj):List Stp:=
 if chk l ps≠0 then [⟨0,0,chk l ps⟩] else
 match ls[l.toNat]? with
 | none=>[⟨0,0,3⟩]
 | some x=>walkS ts x.type 0 ps
structure Okay (ts:List Ty) (ls:List Lc):Prop where
 elem:∀t∈ts,t.kind=3->0<=t.elem/\t.elem<ts.length
 flds:∀t∈ts,∀f∈t.flds,0<=f/\f<ts.length
 loc:∀x∈ls,0<=x.type/\x.type<ts.length
theorem xBI {ts:List Ty} {ls:List Lc} (h:Okay ts ls) {t:Ty} (ht:t∈ts) (x:Pj) (h0:(prT t x).2=0):0<=(prT t x).1/\(prT t x).1<ts.length:=by
 unfold prT at h0 ⊢;split
 ·rename_i h1;exact h.elem t ht h1.2
 ·split
  ·rename_i h1 h2;rw [bB h1,bD h2] at h0;split
   ·rename_i h3;by_cases h4:x.field.toNat<t.flds.length
    ·simp only [List.getD_eq_getElem?_getD,bF h4,Option.getD_some];exact h.flds t ht _ (bO h4)
    ·simp only [List.getD_eq_getElem?_getD,cG (Nat.le_of_not_lt h4),Option.getD_none];exact ⟨by omega,by have:=List.length_pos_of_mem ht;omega⟩
   ·rename_i h3;rw [bB h3] at h0;simp at h0
  ·rename_i h1 h2;rw [bB h1,bB h2] at h0;simp at h0
theorem mV:∀(ps:List Pj),chkP ps=0->∀x∈ps,0<=x.field
 | [],_,_,h=>by cases h
 | y :: r,h0,x,hx=>by
   rw [chkP] at h0;split at h0
   ·cases h0
   ·split at h0
    ·cases h0
    ·split at h0
     ·cases h0
     ·rcases List.mem_cons.1 hx with rfl | hx
      ·omega
      ·exact mV r h0 x hx
theorem rM (A B C:Option Addr) (n c m d k e:Nat) (l:Int) (w:World):
 Calls Tryz.prog 189 #[.slice A n c,.slice B m d,.agg #[.int .i64 l,.slice C k e]] w fun e' w'=>e' = .returned (.func (.func 210) #[] #[.pointer (some ⟨w.heap.size+1+1,0,none⟩),.pointer (some ⟨w.heap.size+1,0,none⟩),.pointer (some ⟨w.heap.size,0,none⟩)])/\
  w'=((w.alloc (.cells #[.slice A n c] 55)).alloc (.cells #[.slice B m d] 56)).alloc (.cells #[.int .i64 l,.slice C k e] 36):=by
 go_enter Tryz.func189,Tryz.ntmps189
 go_wp2
 go_ret;exact ⟨rfl,rfl⟩
theorem vA (n:Nat) (hn:1<=n) (ts:List Ty) (ls:List Lc) (l:Int) (ps:List Pj) (A B C:Option Addr) (c d e bp bl bt:Nat) (w0 w:World) (hw:Below w0.heap.size w0 w) (_h1:w.cell? ⟨bt,0,none⟩=some (.slice A ts.length c)) (_h2:w.cell? ⟨bl,0,none⟩=some (.slice B ls.length d)) (h3:w.cell? ⟨bp,0,none⟩=some (.int .i64 l)) (h4:w.cell? ⟨bp,1,none⟩=some (.slice C ps.length e)) (_hts:Slc 5 RTy w0 A c ts) (_hls:Slc 2 RLc w0 B d ls) (hps:Slc 2 RPj w0 C e ps) (_hok:Okay ts ls) (hbad:chk l ps≠0):
 SeqL Fence.wide n Tryz.prog 210 #[.pointer (some ⟨bp,0,none⟩),.pointer (some ⟨bl,0,none⟩),.pointer (some ⟨bt,0,none⟩)] encS T54 (fun k=>k<w0.heap.size\/k=bt\/k=bl\/k=bp) (pth ts ls l ps) w:=by
 intro lp J Jx W hW hJ hJx hY h0;have hL:pth ts ls l ps=[⟨0,0,chk l ps⟩]:=by rw [pth,bD hbad]
 rw [hL] at hY ⊢;have g3:=cQ hW h3;have g4:=cQ hW h4;have hC:=aH (iI l C e ps W (hps.keep RPj.keeps (hw.trans (hW.mono hw.size))));have hne:(chk l ps != 0)=true:=by simp [hbad]
 clear hps _hts _hls _h1 _h2 h3 h4 _hok hL hbad;generalize chk l ps=r at *;(refine callsIn_of_wp Tryz.func210 rfl trivial ?_ rfl;simp only [Tryz.ntmps210,List.size_toArray,bN,bQ,Nat.reduceAdd,Nat.reduceSub,Array.replicate_succ,Array.replicate_zero,List.push_toArray,List.append_toArray,List.nil_append,List.cons_append]);gi_wp2_with (refine ⟨trivial,?_⟩;gi_at_call 67;refine (callsIn_wide.2 hC.out).mono ?_;rintro e w1 ⟨rfl,hb1⟩)
 obtain ⟨fn,tmps,assign,body,hy,hR⟩:=hY [] ⟨0,0,r⟩ [] w1 rfl (hJ _ _ _ h0 (Turn.of_below hb1));rw [show encS ⟨0,0,r⟩ = #[.int .i64 0,.agg #[.int .i64 0,.int .i64 r]] from rfl] at hy;gi_wp2
 rw [hy];gi_wp2
 refine hR.mono ?_;rintro e W3 (⟨rfl,hJ3,_⟩ | ⟨rfl,hJx3⟩)
 ·gi_wp2
  refine bodyPost_ret (results_none rfl _ _ _) rfl ?_;exact ⟨⟨_,rfl⟩,.inl hJ3⟩
 ·gi_wp2
  refine bodyPost_ret (results_none rfl _ _ _) rfl ?_;exact ⟨⟨_,rfl⟩,.inr ⟨[],_,[],rfl,hJx3⟩⟩
theorem uZ (n:Nat) (hn:1<=n) (ts:List Ty) (ls:List Lc) (l:Int) (ps:List Pj) (A B C:Option Addr) (c d e bp bl bt:Nat) (w0 w:World) (hw:Below w0.heap.size w0 w) (_h1:w.cell? ⟨bt,0,none⟩=some (.slice A ts.length c)) (h2:w.cell? ⟨bl,0,none⟩=some (.slice B ls.length d)) (h3:w.cell? ⟨bp,0,none⟩=some (.int .i64 l)) (h4:w.cell? ⟨bp,1,none⟩=some (.slice C ps.length e)) (_hts:Slc 5 RTy w0 A c ts) (hls:Slc 2 RLc w0 B d ls) (hps:Slc 2 RPj w0 C e ps) (_hok:Okay ts ls) (hgood:chk l ps=0) (hbad:(ls.length:Int)<=l):
 SeqL Fence.wide n Tryz.prog 210 #[.pointer (some ⟨bp,0,none⟩),.pointer (some ⟨bl,0,none⟩),.pointer (some ⟨bt,0,none⟩)] encS T54 (fun k=>k<w0.heap.size\/k=bt\/k=bl\/k=bp) (pth ts ls l ps) w:=by
 intro lp J Jx W hW hJ hJx hY h0
 have hl:0<=l:=by
  unfold chk at hgood;split at hgood
  ·cases hgood
  ·omega
 have hL:pth ts ls l ps=[⟨0,0,3⟩]:=by
  rw [pth,bB (by simp [hgood]),cG (by omega)]
 rw [hL] at hY ⊢;have g2:=cQ hW h2;have g3:=cQ hW h3;have g4:=cQ hW h4;have hC:=iI l C e ps W (hps.keep RPj.keeps (hw.trans (hW.mono hw.size)));rw [hgood] at hC;have HC:=aH hC;have hbig:=hls.le;have hbig2:=hls.big;clear hC hps _hts hls _h1 h2 h3 h4 _hok hL hgood;(refine callsIn_of_wp Tryz.func210 rfl trivial ?_ rfl;simp only [Tryz.ntmps210,List.size_toArray,bN,bQ,Nat.reduceAdd,Nat.reduceSub,Array.replicate_succ,Array.replicate_zero,List.push_toArray,List.append_toArray,List.nil_append,List.cons_append]);gi_wp2_with (refine ⟨trivial,?_⟩;gi_at_call 67;refine (callsIn_wide.2 HC.out).mono ?_;rintro e w1 ⟨rfl,hb1⟩;have q2:=cQ hb1 g2;have q3:=cQ hb1 g3)
 obtain ⟨fn,tmps,assign,body,hy,hR⟩:=hY [] ⟨0,0,3⟩ [] w1 rfl (hJ _ _ _ h0 (Turn.of_below hb1));rw [show encS ⟨0,0,3⟩ = #[.int .i64 0,.agg #[.int .i64 0,.int .i64 3]] from rfl] at hy;gi_wp2
 rw [hy];gi_wp2
 refine hR.mono ?_;rintro e W3 (⟨rfl,hJ3,_⟩ | ⟨rfl,hJx3⟩)
 ·gi_wp2
  refine bodyPost_ret (results_none rfl _ _ _) rfl ?_;exact ⟨⟨_,rfl⟩,.inl hJ3⟩
 ·gi_wp2
  refine bodyPost_ret (results_none rfl _ _ _) rfl ?_;exact ⟨⟨_,rfl⟩,.inr ⟨[],_,[],rfl,hJx3⟩⟩
end
section
open Go
abbrev bdM (b:Bdy) (A1:Option Addr) (c1:Nat) (A2:Option Addr) (c2:Nat) (A3:Option Addr) (c3:Nat) (A4:Option Addr) (c4:Nat) (A5:Option Addr) (c5:Nat) (l:List Value):List Value:=
 Value.string b.name :: .slice A1 b.regions.length c1 :: .slice A2 b.outl.length c2 :: .slice A3 b.types.length c3 :: .slice A4 b.locals.length c4 :: .int .i64 b.args :: .slice A5 b.blocks.length c5 :: l
abbrev bdH (b:Bdy) (h:BH) (l:List Value):List Value:=bdM b h.A1 h.c1 h.A2 h.c2 h.A3 h.c3 h.A4 h.c4 h.A5 h.c5 l
end
end Go.Proofs.YtkaigkfbkpinlaaGreatDoor
