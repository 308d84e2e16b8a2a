/-
  Parts of the proof: V1 V11 A1 V19 V27 V12 Map V14 V4 V5 V6 Pair.
-/
import Derived.Test.YtmknfbfppmkcfaaGreatDoorPP0
import Derived.Test.YtmknfbfppmkcfaaGreatDoorPP2
import Derived.Test.YtmknfbfppmkcfaaGreatDoorSg
import Derived.Test.YtmknfbfppmkcfaaGreatDoorPP1
import Derived.Maps.OwnSet
import Derived.Maps.OwnOps
import Derived.StringKeys
import Derived.Deep.MidRow
namespace Go.Proofs.YtmknfbfppmkcfaaGreatDoor
set_option maxRecDepth 100000
set_option maxHeartbeats 16000000
section
open Go Go.RowKit
def isLet (c:UInt8):Bool:=decide (97<=c.toNat/\c.toNat<=122) || decide (65<=c.toNat/\c.toNat<=90) || decide (c.toNat=95)
def isDig (c:UInt8):Bool:=decide (48<=c.toNat/\c.toNat<=57)
def sM:List UInt8->Bool
 | []=>false
 | c :: r=>isLet c && r.all (fun c=>isLet c || isDig c) && decide (r.length<=254)
def isIdent (s:ByteArray):Bool:=sM s.data.toList
def memN (s:ByteArray) (l:List ByteArray):Bool:=l.any (fun x=>decide (x=s))
theorem oB {s:ByteArray} {l:List ByteArray}:memN s l=true↔s∈l:=by
 simp only [memN,List.any_eq_true,decide_eq_true_eq];exact ⟨fun ⟨x,h,e⟩=>e ▸ h,fun h=>⟨s,h,rfl⟩⟩
def namesE:List ByteArray->List ByteArray->Int
 | _,[]=>0
 | seen,s :: r=>if isIdent s=false then 12 else if memN s seen=true then 21 else namesE (s :: seen) r
def namesC (l:List ByteArray):Int:=if 65535<l.length then 15 else namesE [] l
def pairE (n:Int) (q:Option (Int × Int)) (p:Int × Int):Int:=
 if p.1<0\/p.2<0\/n<=p.1\/n<=p.2 then 3 else if p.1=p.2 then 2 else
  match q with
  | none=>0
  | some q=>if p.1<q.1\/(p.1=q.1/\p.2<=q.2) then 21 else 0
def pairsE (n:Int):Option (Int × Int)->List (Int × Int)->Int
 | _,[]=>0
 | q,p :: r=>if pairE n q p=0 then pairsE n (some p) r else pairE n q p
def pairsC (n:Int) (l:List (Int × Int)):Int:=if 65535<l.length then 15 else pairsE n none l
def depF (d:List Int):Int->List Int->Option Int
 | a,[]=>some a
 | a,i :: r=>if i<0 then none else match d[i.toNat]? with
   | none=>none
   | some x=>depF d (max a x) r
def tyE (prev:List Ty) (d:List Int) (n:Int) (t:Ty):Int × Int:=
 if t.kind<0\/4<t.kind then (14,0)
 else if (t.kind≠3/\(t.mu=true\/t.reg≠0\/t.elem≠0))\/(t.kind≠4/\0<t.flds.length) then (2,0)
 else if t.kind=3/\(t.reg<0\/n<=t.reg) then (3,0)
 else match depF d 0 (if t.kind=3 then [t.elem] else t.flds) with
  | none=>(3,0)
  | some k=>
    if t.kind=4/\(t.flds.length=0\/65535<t.flds.length) then (15,0)
    else if 32<=k then (19,0)
    else if t∈prev then (21,0)
    else (0,k+1)
def typesE (n:Int):List Ty->List Int->List Ty->Int
 | _,_,[]=>0
 | prev,d,t :: r=>if (tyE prev d n t).1=0 then typesE n (prev ++ [t]) (d ++ [(tyE prev d n t).2]) r else (tyE prev d n t).1
def typesC (n:Int) (l:List Ty):Int:=if 65535<l.length then 15 else typesE n [] [] l
def localsE (nt:Nat):List ByteArray->List Lc->Int
 | _,[]=>0
 | seen,x :: r=>if isIdent x.name=false then 12 else if memN x.name seen=true then 21 else if x.type<0\/(nt:Int)<=x.type then 3 else localsE nt (x.name :: seen) r
def localsC (b:Bdy):Int:=
 if 65535<b.locals.length then 15 else
  if localsE b.types.length [] b.locals=0 then (if b.args<0\/(b.locals.length:Int)<b.args then 3 else 0) else localsE b.types.length [] b.locals
def firstE:List Int->Int
 | []=>0
 | e :: r=>if e=0 then firstE r else e
def declC (b:Bdy):Int:=
 if isIdent b.name=false then 12
 else if firstE [namesC b.regions,pairsC b.regions.length b.outl,typesC b.regions.length b.types,localsC b]=0 then
  (if b.blocks.length=0\/65535<b.blocks.length then 15 else 0)
 else firstE [namesC b.regions,pairsC b.regions.length b.outl,typesC b.regions.length b.types,localsC b]
def zeroP (p:Plc):Bool:=decide (p.loc=0) && decide (p.proj.length=0)
def fail22 (b:Bool):Int:=if b=true then 22 else 0
def copF (ts:List Ty):Nat->Int->Bool
 | 0,_=>false
 | n+1,i=>if i<0 then false else match ts[i.toNat]? with
   | none=>false
   | some t=>if t.kind=3 then !t.mu else t.flds.all (copF ts n)
def copB (ts:List Ty) (i:Int):Bool:=copF ts (i.toNat+1) i
def nextR (pairs:List (Int × Int)) (x:Int):List Int->List Int
 | set=>pairs.foldl (fun s p=>if p.1=x/\p.2∉s then s ++ [p.2] else s) set
def outF (pairs:List (Int × Int)) (b:Int):Nat->List Int->Nat->Bool
 | 0,_,_=>false
 | f+1,set,i=>match set[i]? with
   | none=>false
   | some x=>if x=b then true else outF pairs b f (nextR pairs x set) (i+1)
def outB (pairs:List (Int × Int)) (n:Int) (a b:Int):Bool:=
 if a<0\/n<=a\/b<0\/n<=b then false else outF pairs b (n.toNat+1) [a] 0
def subF (pairs:List (Int × Int)) (n:Int) (ts:List Ty):Nat->Int->Int->Bool
 | 0,_,_=>false
 | f+1,s,t=>if s<0\/t<0 then false else match ts[s.toNat]?,ts[t.toNat]? with
   | some a,some b=>
     decide (a.kind=b.kind) && decide (a.mu=b.mu) && decide (a.flds.length=b.flds.length) && (a.flds.zip b.flds).all (fun p=>subF pairs n ts f p.1 p.2) &&
      (decide (a.kind≠3) || (outB pairs n a.reg b.reg && subF pairs n ts f a.elem b.elem && (!a.mu || subF pairs n ts f b.elem a.elem)))
   | _,_=>false
def subB (b:Bdy) (s t:Int):Bool:=subF b.outl b.regions.length b.types (s.toNat+t.toNat+1) s t
def tyB (b:Bdy) (p:Plc):Int × Int:=tyOf b.types b.locals p.loc p.proj
def mutB (b:Bdy) (p:Plc):Bool:=(refsOf b.types b.locals p.loc p.proj).2 && !(refsOf b.types b.locals p.loc p.proj).1.any notMu
def kindT (b:Bdy) (i:Int):Int:=((b.types[i.toNat]?).map (·.kind)).getD 0
def opE (b:Bdy) (o:Opd):Int:=
 if o.kind<0\/4<o.kind then 14
 else if (o.kind≠2/\o.kind≠3/\o.n≠0)\/(1<o.kind/\zeroP o.place=false) then 2
 else if o.kind=3/\o.n≠0/\o.n≠1 then 3
 else if 1<o.kind then 0
 else if (tyB b o.place).2≠0 then (tyB b o.place).2
 else if o.kind=0 then fail22 (!copB b.types (tyB b o.place).1) else fail22 (hasD o.place.proj 0)
def kindO (b:Bdy) (o:Opd):Int:=
 if o.kind=2 then 2 else if o.kind=3 then 1 else if o.kind=4 then 0 else kindT b (tyB b o.place).1
def fitsO (b:Bdy) (o:Opd) (t:Int):Bool:=
 if o.kind≠0/\o.kind≠1 then decide (kindO b o=kindT b t) else subB b (tyB b o.place).1 t
def opsE (b:Bdy):List Opd->List Int->Int
 | [],_=>0
 | o :: r,[]=>if opE b o=0 then opsE b r [] else opE b o
 | o :: r,f :: fs=>if opE b o=0 then (if fitsO b o f=true then opsE b r fs else 22) else opE b o
def unusedR (r:Rvl):Bool:=
 let plain:=decide (r.reg=0) && !r.mu && zeroP r.place
 if r.kind=0 then plain && decide (r.op=0) && decide (r.args.length=1)
 else if r.kind=1 then decide (r.op=0) && decide (r.args.length=0)
 else if r.kind=2 then plain && decide (r.args.length=1)
 else if r.kind=3 then plain && decide (r.args.length=2)
 else plain && decide (r.op=0)
def gU:List (Int × Int):=[(2,2),(1,1)]
def fM:List (Int × Int):=[(2,2),(2,2),(2,2),(2,1),(2,1),(1,1)]
def operE (b:Bdy) (r:Rvl) (t:Int) (tab:List (Int × Int)):Int:=
 if r.op<0\/(tab.length:Int)<=r.op then 14
 else if opsE b r.args []≠0 then opsE b r.args []
 else match tab[r.op.toNat]? with
  | none=>0
  | some x=>if r.args.all (fun o=>decide (kindO b o=x.1))=true then fail22 (decide (kindT b t≠x.2)) else 22
def borE (b:Bdy) (r:Rvl) (t:Int):Int:=
 if (tyB b r.place).2≠0 then (tyB b r.place).2
 else if r.reg<0\/(b.regions.length:Int)<=r.reg then 3
 else match b.types[t.toNat]? with
  | none=>0
  | some x=>
    if x.kind≠3\/x.reg≠r.reg\/x.mu≠r.mu\/x.elem≠(tyB b r.place).1 then 22
    else if r.mu=true/\mutB b r.place=false then 22
    else if (refsOf b.types b.locals r.place.loc r.place.proj).1.all (fun q=>outB b.outl b.regions.length q.reg r.reg)=true then 0 else 22
def rvE (b:Bdy) (r:Rvl) (t:Int):Int:=
 if r.kind<0\/4<r.kind then 14
 else if unusedR r=false then 2
 else if r.kind=0 then opsE b r.args [t]
 else if r.kind=1 then borE b r t
 else if r.kind=2 then operE b r t gU
 else if r.kind=3 then operE b r t fM
 else match b.types[t.toNat]? with
  | none=>0
  | some x=>if x.kind≠4\/x.flds.length≠r.args.length then 22 else opsE b r.args x.flds
def writE (b:Bdy) (p:Plc):Int:=if (tyB b p).2≠0 then (tyB b p).2 else fail22 (!mutB b p)
def dM (r:Rvl):Bool:=decide (r.kind=0) && decide (r.op=0) && decide (r.args.length=0) && decide (r.reg=0) && !r.mu && zeroP r.place
def stE (b:Bdy) (s:Stm):Int:=
 if s.kind=0 then
  (if s.loc≠0 then 2 else if writE b s.place≠0 then writE b s.place else rvE b s.rv (tyB b s.place).1)
 else if s.kind=1 then
  (if zeroP s.place=false\/dM s.rv=false then 2 else if s.loc<0\/(b.locals.length:Int)<=s.loc then 3 else 0)
 else if s.kind=2 then
  (if zeroP s.place=false\/dM s.rv=false\/s.loc≠0 then 2 else 0)
 else 14
def fieldsT (t:Trm):Bool:=
 if t.kind=0 then decide (t.targets.length=1) && decide (t.args.length=0) && zeroP t.place && decide (t.name.size=0)
 else if t.kind=1 then decide (t.targets.length=2) && decide (t.args.length=1) && zeroP t.place && decide (t.name.size=0)
 else if t.kind=3 then decide (t.targets.length=1)
 else if t.kind=4 then decide (t.targets.length=1) && decide (t.args.length=0) && decide (t.name.size=0)
 else decide (t.targets.length=0) && decide (t.args.length=0) && zeroP t.place && decide (t.name.size=0)
def tmE (b:Bdy) (t:Trm):Int:=
 if t.kind<0\/5<t.kind then 14
 else if fieldsT t=false then 2
 else if t.targets.all (fun k=>decide (0<=k/\k<(b.blocks.length:Int)))=false then 3
 else if t.kind=1 then
  (match t.args with
    | []=>0
    | o :: _=>if opE b o≠0 then opE b o else fail22 (decide (kindO b o≠1)))
 else if t.kind=3 then
  (if isIdent t.name=false then 12 else if 65535<t.args.length then 15 else if opsE b t.args []≠0 then opsE b t.args [] else writE b t.place)
 else if t.kind=4 then
  (if (tyB b t.place).2≠0 then (tyB b t.place).2 else fail22 (hasD t.place.proj 0))
 else 0
def stsE (b:Bdy):List Stm->Int
 | []=>0
 | s :: r=>if stE b s=0 then stsE b r else stE b s
def bkE (b:Bdy) (x:Blk):Int:=
 if 65535<x.stmts.length then 15 else if stsE b x.stmts≠0 then stsE b x.stmts else tmE b x.term
def bksE (b:Bdy):List Blk->Int
 | []=>0
 | x :: r=>if bkE b x=0 then bksE b r else bkE b x
def chkB (b:Bdy):Int:=if declC b=0 then bksE b b.blocks else declC b
def cmp2 (p q:Int × Int):Int:=if p.1<q.1 then -1 else if q.1<p.1 then 1 else if p.2<q.2 then -1 else if q.2<p.2 then 1 else 0
theorem tG (x y:Int):Lib.compareInt x y=if x<y then -1 else if y<x then 1 else 0:=by
 unfold Lib.compareInt;rfl
theorem yR (p q:Int × Int):(0<=cmp2 q p)↔(p.1<q.1\/(p.1=q.1/\p.2<=q.2)):=by
 unfold cmp2;split
 ·omega
 split
 ·omega
 split
 ·omega
 split <;> omega
theorem gI (p q:Int × Int) (b1 o1 b2 o2:Nat) (w:World) (h1:w.cell? ⟨b1,o1,none⟩=some (.int .i64 p.1)) (h2:w.cell? ⟨b1,o1+1,none⟩=some (.int .i64 p.2)) (h3:w.cell? ⟨b2,o2,none⟩=some (.int .i64 q.1)) (h4:w.cell? ⟨b2,o2+1,none⟩=some (.int .i64 q.2)):
 Calls Tryz.prog 89 #[.slice (some ⟨b1,o1,none⟩) 2 2,.slice (some ⟨b2,o2,none⟩) 2 2] w fun e' w'=>e' = .returned (.int .i64 (cmp2 p q))/\w'=w:=by
 obtain ⟨p1,p2⟩:=p;obtain ⟨q1,q2⟩:=q;simp only at *;obtain ⟨R,hR⟩:∃R,cmp2 (p1,p2) (q1,q2)=R:=⟨_,rfl⟩;rw [hR];have HC1:=aF (Tryz.cmp_Compare_int p1 q1 w);have HC2:=aF (Tryz.cmp_Compare_int p2 q2 w)
 have H1:Hid (Lib.compareInt p1 q1≠0->R=Lib.compareInt p1 q1):=aF (fun h=>by
  rw [<- hR];rw [tG] at h ⊢;unfold cmp2;split
  ·rfl
  split
  ·rfl
  ·simp_all)
 have H2:Hid (Lib.compareInt p1 q1=0->R=Lib.compareInt p2 q2):=aF (fun h=>by
  rw [<- hR];rw [tG] at h ⊢;unfold cmp2;split
  ·simp_all
  split
  ·simp_all
  ·rfl)
 generalize Lib.compareInt p1 q1=c1 at HC1 H1 H2;generalize Lib.compareInt p2 q2=c2 at HC2 H2;clear hR;go_enter Tryz.func89,Tryz.ntmps89
 go_wp2_with fail
 go_loop [11] (fun v=>∃k:Nat,k<=2/\v = .int .i64 k/\Hid (0<k->c1=0)/\Hid (k=2->R=0)) (fun v=>2 - (intOf v).toNat)
 case atStart=>exact ⟨0,by omega,rfl,aF (fun h=>absurd h (by omega)),aF (fun h=>absurd h (by omega))⟩
 case round=>
  obtain ⟨k,hk,rfl,hr,hr2⟩:=hrel;rcases (show k=0\/k=1\/k=2 by omega) with rfl | rfl | rfl
  ·by_cases hc:c1=0
   ·have e1:(c1 != 0)=false:=by simp [hc]
    have HC:=aF hc;clear hr hr2 hc;go_wp2_with (go_at_call 137;refine HC1.out.mono ?_;rintro e' w1 ⟨rfl,hw⟩;obtain rfl:=hw.symm)
    go_round
    case rel=>exact ⟨1,by omega,by go_num,aF (fun _=>HC.out),aF (fun h=>absurd h (by omega))⟩
    case measure=>simp [intOf]
   ·have e1:(c1 != 0)=true:=by simp [hc]
    have HF:=aF (H1.out hc);clear hr hr2 hc;go_wp2_with (go_at_call 137;refine HC1.out.mono ?_;rintro e' w1 ⟨rfl,hw⟩;obtain rfl:=hw.symm)
    go_ret;exact ⟨by rw [HF.out];rfl,rfl⟩
  ·have HF:=aF (H2.out (hr.out (by omega)));by_cases hc:c2=0
   ·have e1:(c2 != 0)=false:=by simp [hc]
    have HC:Hid (R=0):=aF (by rw [HF.out,hc]);clear hr2 hc;go_wp2_with (go_at_call 137;refine HC2.out.mono ?_;rintro e' w1 ⟨rfl,hw⟩;obtain rfl:=hw.symm)
    go_round
    case rel=>exact ⟨2,by omega,by go_num,aF (fun _=>hr.out (by omega)),aF (fun _=>HC.out)⟩
    case measure=>simp [intOf]
   ·have e1:(c2 != 0)=true:=by simp [hc]
    clear hr hr2 hc;go_wp2_with (go_at_call 137;refine HC2.out.mono ?_;rintro e' w1 ⟨rfl,hw⟩;obtain rfl:=hw.symm)
    go_ret;exact ⟨by rw [HF.out];rfl,rfl⟩
  ·have HF:=aF (hr2.out rfl);clear hr hr2;go_wp2_with fail
   go_ret;exact ⟨by rw [HF.out];rfl,rfl⟩
structure Ln where
 reg:Int
 pt:Int
 mu:Bool
 place:Plc
 deriving DecidableEq
structure Fct where
 loans:List Ln
 edges:List (Int × Int)
 killed:List (Int × Int)
 inval:List (Int × Int)
 live:List (Int × Int)
 deriving DecidableEq
def RLn:Rd Ln:=fun w B b o x=>w.cell? ⟨b,o,none⟩=some (.int .i64 x.reg)/\w.cell? ⟨b,o+1,none⟩=some (.int .i64 x.pt)/\w.cell? ⟨b,o+2,none⟩=some (.bool x.mu)/\RPl w B b (o+3) x.place
theorem RLn.keeps:RLn.Keeps:=fun w w' B B' b o _x hB hlt hb ⟨h0,h1,h2,h3⟩=>
 ⟨(hb.cell (p:=⟨b,o,none⟩) hlt).trans h0,(hb.cell (p:=⟨b,o+1,none⟩) hlt).trans h1,(hb.cell (p:=⟨b,o+2,none⟩) hlt).trans h2,RPl.keeps w w' B B' b _ _ hB hlt hb h3⟩
structure FH where
 A0:Option Addr
 c0:Nat
 A1:Option Addr
 c1:Nat
 A2:Option Addr
 c2:Nat
 A3:Option Addr
 c3:Nat
 A4:Option Addr
 c4:Nat
def fcC (f:Fct) (h:FH):List Value:=[.slice h.A0 f.loans.length h.c0,.slice h.A1 f.edges.length h.c1,.slice h.A2 f.killed.length h.c2,.slice h.A3 f.inval.length h.c3,.slice h.A4 f.live.length h.c4]
structure FcAt (w:World) (f:Fct) (h:FH):Prop where
 ln:Slc 5 RLn w h.A0 h.c0 f.loans
 ed:Slc 2 RPr w h.A1 h.c1 f.edges
 ki:Slc 2 RPr w h.A2 h.c2 f.killed
 iv:Slc 2 RPr w h.A3 h.c3 f.inval
 li:Slc 2 RPr w h.A4 h.c4 f.live
theorem FcAt.keep {w w':World} {f:Fct} {h:FH} (H:FcAt w f h) (hb:Below w.heap.size w w'):FcAt w' f h:=
 ⟨H.ln.keep RLn.keeps hb,H.ed.keep RPr.keeps hb,H.ki.keep RPr.keeps hb,H.iv.keep RPr.keeps hb,H.li.keep RPr.keeps hb⟩
def loE (p r:Int) (q:Option Ln) (l:Ln):Int:=
 if l.reg<0\/r<=l.reg\/l.pt<0\/p<=l.pt then 3
 else if chk l.place.loc l.place.proj≠0 then chk l.place.loc l.place.proj
 else match q with
  | none=>0
  | some k=>if l.pt<=k.pt then 21 else 0
def losE (p r:Int):Option Ln->List Ln->Int
 | _,[]=>0
 | q,l :: xs=>if loE p r q l=0 then losE p r (some l) xs else loE p r q l
def prE (f s:Int) (q:Option (Int × Int)) (x:Int × Int):Int:=
 if x.1<0\/f<=x.1\/x.2<0\/s<=x.2 then 3
 else match q with
  | none=>0
  | some k=>if 0<=cmp2 k x then 21 else 0
def prsE (f s:Int):Option (Int × Int)->List (Int × Int)->Int
 | _,[]=>0
 | q,x :: xs=>if prE f s q x=0 then prsE f s (some x) xs else prE f s q x
structure Tb where
 A:Option Addr
 xs:List (Int × Int)
 c:Nat
 f:Int
 s:Int
def tbE:List Tb->Int
 | []=>0
 | t :: ts=>if prsE t.f t.s none t.xs=0 then tbE ts else prsE t.f t.s none t.xs
def tbsOf (f:Fct) (h:FH) (p r:Int):List Tb:=[⟨h.A1,f.edges,h.c1,p,p⟩,⟨h.A2,f.killed,h.c2,f.loans.length,p⟩,⟨h.A3,f.inval,h.c3,f.loans.length,p⟩,⟨h.A4,f.live,h.c4,r,p⟩]
def fcBig (f:Fct):Prop:=16777216<f.loans.length\/16777216<f.edges.length\/16777216<f.killed.length\/16777216<f.inval.length\/16777216<f.live.length
instance (f:Fct):Decidable (fcBig f):=by unfold fcBig;exact inferInstance
def fctE (f:Fct) (p r:Int):Int:=
 if fcBig f then 15
 else if losE p r none f.loans≠0 then losE p r none f.loans
 else if prsE p p none f.edges≠0 then prsE p p none f.edges
 else if prsE f.loans.length p none f.killed≠0 then prsE f.loans.length p none f.killed
 else if prsE f.loans.length p none f.inval≠0 then prsE f.loans.length p none f.inval
 else prsE r p none f.live
theorem yG {f:Fct} {h:FH} {p r:Int} (hb:¬fcBig f) (hl:losE p r none f.loans=0):fctE f p r=tbE (tbsOf f h p r):=by
 unfold fctE tbsOf tbE tbE tbE tbE tbE;rw [aZ hb,aZ (fun e=>e hl)];simp only [ite_not];split
 ·split
  ·split
   ·split
    ·assumption
    ·rfl
   ·rfl
  ·rfl
 ·rfl
theorem lR (p r:Int) (q:Option Ln) (l:Ln) (xs:List Ln):losE p r q (l :: xs)=if loE p r q l=0 then losE p r (some l) xs else loE p r q l:=rfl
theorem lI (f s:Int) (q:Option (Int × Int)) (x:Int × Int) (xs:List (Int × Int)):prsE f s q (x :: xs)=if prE f s q x=0 then prsE f s (some x) xs else prE f s q x:=rfl
theorem lS {p r:Int} {q:Option Ln} {l:Ln} (h:l.reg<0\/r<=l.reg\/l.pt<0\/p<=l.pt):loE p r q l=3:=by unfold loE;rw [bA h]
theorem yC {p r:Int} {q:Option Ln} {l:Ln} (h:¬(l.reg<0\/r<=l.reg\/l.pt<0\/p<=l.pt)) (h2:chk l.place.loc l.place.proj≠0):loE p r q l=chk l.place.loc l.place.proj:=by unfold loE;rw [aZ h,bA h2]
theorem vI {p r:Int} {l:Ln} (h:¬(l.reg<0\/r<=l.reg\/l.pt<0\/p<=l.pt)) (h2:chk l.place.loc l.place.proj=0):loE p r none l=0:=by unfold loE;rw [aZ h,aZ (fun e=>e h2)]
theorem vH {p r:Int} {k l:Ln} (h:¬(l.reg<0\/r<=l.reg\/l.pt<0\/p<=l.pt)) (h2:chk l.place.loc l.place.proj=0):loE p r (some k) l=if l.pt<=k.pt then 21 else 0:=by unfold loE;rw [aZ h,aZ (fun e=>e h2)]
theorem lJ {f s:Int} {q:Option (Int × Int)} {x:Int × Int} (h:x.1<0\/f<=x.1\/x.2<0\/s<=x.2):prE f s q x=3:=by unfold prE;rw [bA h]
theorem vA {f s:Int} {x:Int × Int} (h:¬(x.1<0\/f<=x.1\/x.2<0\/s<=x.2)):prE f s none x=0:=by unfold prE;rw [aZ h]
theorem uZ {f s:Int} {k x:Int × Int} (h:¬(x.1<0\/f<=x.1\/x.2<0\/s<=x.2)):prE f s (some k) x=if 0<=cmp2 k x then 21 else 0:=by unfold prE;rw [aZ h]
def prevL {α : Type} (l:List α) (k:Nat):Option α := if k=0 then none else l[k - 1]?
def TyOk (ts:List Ty):Prop:=∀i (h:i<ts.length),(ts[i].kind=3->0<=ts[i].elem/\ts[i].elem<i/\ts[i].flds=[])/\∀f∈ts[i].flds,0<=f/\f<i
theorem eX {ts:List Ty} (hok:TyOk ts):∀(f g:Nat) (i:Int),i.toNat<f->i.toNat<g->copF ts f i=copF ts g i
 | 0,_,_,h,_=>absurd h (by omega)
 | _,0,_,_,h=>absurd h (by omega)
 | f+1,g+1,i,h,h2=>by
   rw [copF,copF];by_cases hi:i<0
   ·rw [bA hi,bA hi]
   rw [aZ hi,aZ hi];by_cases hlt:i.toNat<ts.length
   ·rw [bD hlt];simp only;split
    ·rfl
    ·rw [bR,List.all_eq_true,List.all_eq_true];have hf:=(hok i.toNat hlt).2;constructor <;> intro h0 x hx
     ·rw [<- eX hok f g x (by have:=hf x hx;omega) (by have:=hf x hx;omega)];exact h0 x hx
     ·rw [eX hok f g x (by have:=hf x hx;omega) (by have:=hf x hx;omega)];exact h0 x hx
   ·rw [cE (by omega)]
theorem tD {ts:List Ty} (hok:TyOk ts) {i:Nat} (h:i<ts.length):copB ts i=if ts[i].kind=3 then !ts[i].mu else ts[i].flds.all (copB ts):=by
 unfold copB;rw [bW,copF,aZ (by omega),bW,bD h];simp only;split
 ·rfl
 ·rw [bR,List.all_eq_true,List.all_eq_true];have hf:=(hok i h).2;constructor <;> intro h0 x hx
  ·rw [eX hok _ i x (by omega) (by have:=hf x hx;omega)];exact h0 x hx
  ·rw [eX hok i _ x (by have:=hf x hx;omega) (by omega:x.toNat<x.toNat+1)];exact h0 x hx
theorem vW {ts:List Ty} {i:Int} (h:i<0\/(ts.length:Int)<=i):copB ts i=false:=by
 unfold copB;rw [copF];by_cases hi:i<0
 ·rw [bA hi]
 ·rw [aZ hi,cE (by omega)]
def subS (pairs:List (Int × Int)) (n:Int) (S:Int->Int->Bool) (a b:Ty):Bool:=
 decide (a.kind=b.kind) && decide (a.mu=b.mu) && decide (a.flds.length=b.flds.length) && (a.flds.zip b.flds).all (fun p=>S p.1 p.2) &&
  (decide (a.kind≠3) || (outB pairs n a.reg b.reg && S a.elem b.elem && (!a.mu || S b.elem a.elem)))
theorem fO (pairs:List (Int × Int)) (n:Int) (ts:List Ty) (f:Nat) (s t:Int):subF pairs n ts (f+1) s t=if s<0\/t<0 then false else match ts[s.toNat]?,ts[t.toNat]? with
 | some a,some b=>subS pairs n (subF pairs n ts f) a b
 | _,_=>false:=rfl
theorem iR {pairs:List (Int × Int)} {n:Int} {S S':Int->Int->Bool} {a b:Ty} (h:∀x∈a.flds,∀y∈b.flds,S x y=S' x y) (h3:a.kind=3->b.kind=3->S a.elem b.elem=S' a.elem b.elem/\S b.elem a.elem=S' b.elem a.elem):
 subS pairs n S a b=subS pairs n S' a b:=by
 unfold subS
 have e1:(a.flds.zip b.flds).all (fun p=>S p.1 p.2)=(a.flds.zip b.flds).all (fun p=>S' p.1 p.2):=by
  rw [bR,List.all_eq_true,List.all_eq_true];constructor
  ·intro g p hp;have:=List.of_mem_zip hp;rw [<- h p.1 this.1 p.2 this.2];exact g p hp
  ·intro g p hp;have:=List.of_mem_zip hp;rw [h p.1 this.1 p.2 this.2];exact g p hp
 rw [e1];by_cases hk:a.kind=b.kind
 ·by_cases ha:a.kind=3
  ·obtain ⟨h4,h5⟩:=h3 ha (hk ▸ ha);rw [h4,h5]
  ·simp [ha]
 ·simp [hk]
theorem dW {pairs:List (Int × Int)} {n:Int} {ts:List Ty} (hok:TyOk ts):∀(f g:Nat) (s t:Int),s.toNat+t.toNat<f->s.toNat+t.toNat<g->subF pairs n ts f s t=subF pairs n ts g s t
 | 0,_,_,_,h,_=>absurd h (by omega)
 | _,0,_,_,_,h=>absurd h (by omega)
 | f+1,g+1,s,t,h,h2=>by
   rw [fO,fO];by_cases hi:s<0\/t<0
   ·rw [bA hi,bA hi]
   rw [aZ hi,aZ hi];by_cases hs:s.toNat<ts.length
   ·by_cases ht:t.toNat<ts.length
    ·rw [bD hs,bD ht];simp only;refine iR ?_ ?_
     ·intro x hx y hy;have h5:=(hok _ hs).2 x hx;have h6:=(hok _ ht).2 y hy;exact dW hok f g x y (by omega) (by omega)
     ·intro ha hb;obtain ⟨a1,a2,-⟩:=(hok _ hs).1 ha;obtain ⟨b1,b2,-⟩:=(hok _ ht).1 hb;exact ⟨dW hok f g _ _ (by omega) (by omega),dW hok f g _ _ (by omega) (by omega)⟩
    ·rw [cE (by omega:ts.length<=t.toNat)];cases ts[s.toNat]? <;> rfl
   ·rw [cE (by omega:ts.length<=s.toNat)]
theorem mG {b:Bdy} (hok:TyOk b.types) {s t:Nat} (hs:s<b.types.length) (ht:t<b.types.length):
 subB b s t=subS b.outl b.regions.length (subB b) b.types[s] b.types[t]:=by
 have e:subB b s t=subF b.outl b.regions.length b.types (s+t+1) s t:=rfl;rw [e,fO,aZ (by omega)];simp only [bW];rw [bD hs,bD ht];simp only;refine iR ?_ ?_
 ·intro x hx y hy;have h5:=(hok _ hs).2 x hx;have h6:=(hok _ ht).2 y hy;exact dW hok _ _ x y (by omega) (by omega)
 ·intro ha hb;obtain ⟨a1,a2,-⟩:=(hok _ hs).1 ha;obtain ⟨b1,b2,-⟩:=(hok _ ht).1 hb;exact ⟨dW hok _ _ _ _ (by omega) (by omega),dW hok _ _ _ _ (by omega) (by omega)⟩
theorem uF {b:Bdy} {s t:Int} (h:s<0\/t<0\/(b.types.length:Int)<=s\/(b.types.length:Int)<=t):subB b s t=false:=by
 have e:subB b s t=subF b.outl b.regions.length b.types (s.toNat+t.toNat+1) s t:=rfl;rw [e,fO];by_cases hi:s<0\/t<0
 ·rw [bA hi]
 rw [aZ hi];by_cases hs:s.toNat<b.types.length
 ·rw [cE (by omega:b.types.length<=t.toNat)];cases b.types[s.toNat]? <;> rfl
 ·rw [cE (by omega:b.types.length<=s.toNat)]
def CovT (ts:List Ty) (sl:List Int) (i:Int):Prop:=∃(h:i.toNat<ts.length),0<=i/\((ts[i.toNat].kind=3/\ts[i.toNat].mu=false)\/(ts[i.toNat].kind≠3/\i∈sl))
theorem CovT.mono {ts:List Ty} {sl sl':List Int} {i:Int} (h:CovT ts sl i) (hs:∀x∈sl,x∈sl'):CovT ts sl' i:=by
 obtain ⟨h1,h2,h3⟩:=h;exact ⟨h1,h2,h3.imp id (fun h=>⟨h.1,hs _ h.2⟩)⟩
theorem oP {ts:List Ty} (hok:TyOk ts) {sl:List Int} (hc:∀x∈sl,∀(h:x.toNat<ts.length),0<=x->ts[x.toNat].kind≠3->∀f∈ts[x.toNat].flds,CovT ts sl f):∀(m:Nat) (i:Int),i.toNat<m->CovT ts sl i->copB ts i=true
 | 0,_,h,_=>absurd h (by omega)
 | m+1,i,hm,⟨h1,h2,h3⟩=>by
   obtain ⟨k,rfl⟩:=bG h2;simp only [bW] at h1 h3 hm;rw [tD hok h1];rcases h3 with ⟨h3,h4⟩ | ⟨h3,h4⟩
   ·rw [bA h3,h4];rfl
   ·rw [aZ h3,List.all_eq_true];intro f hf;have hfr:=(hok k h1).2 f hf;exact oP hok hc m f (by omega) (hc _ h4 (by simpa using h1) h2 (by simpa using h3) f (by simpa using hf))
theorem mV {n:Int} {q:Option (Int × Int)} {p:Int × Int} (h:p.1<0\/p.2<0\/n<=p.1\/n<=p.2):pairE n q p=3:=by unfold pairE;rw [bA h]
theorem pO {n:Int} {q:Option (Int × Int)} {p:Int × Int} (h:¬(p.1<0\/p.2<0\/n<=p.1\/n<=p.2)) (h2:p.1=p.2):pairE n q p=2:=by unfold pairE;rw [aZ h,bA h2]
theorem pP {n:Int} {p:Int × Int} (h:¬(p.1<0\/p.2<0\/n<=p.1\/n<=p.2)) (h2:¬p.1=p.2):pairE n none p=0:=by unfold pairE;rw [aZ h,aZ h2]
theorem pN {n:Int} {q p:Int × Int} (h:¬(p.1<0\/p.2<0\/n<=p.1\/n<=p.2)) (h2:¬p.1=p.2):pairE n (some q) p=if 0<=cmp2 q p then 21 else 0:=by
 unfold pairE;rw [aZ h,aZ h2];simp only [yR]
theorem nM (w:World) (x y:Value) (t:TypeId):(w.alloc (.cells #[x,y] t)).cell? ⟨w.heap.size,0,none⟩=some x/\(w.alloc (.cells #[x,y] t)).cell? ⟨w.heap.size,1,none⟩=some y:=by
 constructor <;> (rw [World.cell?_alloc_at _ _ _ _ (by simp)];rfl)
theorem gZ (n:Int) (q:Option (Int × Int)) (p:Int × Int) (r:List (Int × Int)):pairsE n q (p :: r)=if pairE n q p=0 then pairsE n (some p) r else pairE n q p:=rfl
def prevP (l:List (Int × Int)) (k:Nat):Option (Int × Int):=if k=0 then none else l[k - 1]?
theorem iW (l:List (Int × Int)) (n:Int) (A:Option Addr) (c:Nat) (w:World) (hs:Slc 2 RPr w A c l):
 Calls Tryz.prog 111 #[.slice A l.length c,.int .i64 n] w fun e' w'=>e' = .returned (.int .i64 (pairsC n l))/\Below w.heap.size w w':=by
 have hle:=hs.le;have hbig:=hs.big;unfold pairsC;by_cases h0:65535<l.length
 ·rw [bA h0];clear hs;go_enter Tryz.func111,Tryz.ntmps111
  go_wp2_with fail
  go_ret;exact ⟨rfl,aX _ _⟩
 rw [aZ h0];obtain ⟨R,hR⟩:∃R,pairsE n none l=R:=⟨_,rfl⟩;rw [hR];have HR:=aF hR;have HS:=aF hs;clear hR hs;go_enter Tryz.func111,Tryz.ntmps111
 go_wp2_with fail
 go_loopw [12] (fun v wr=>∃k:Nat,k<=l.length/\v = .int .i64 k/\Hid (Below w.heap.size w wr)/\Hid (R=pairsE n (prevP l k) (l.drop k))) (fun v _=>l.length - (intOf v).toNat)
 case atStart=>exact ⟨0,by omega,rfl,aF (aX _ _),aF HR.out.symm⟩
 case round=>
  obtain ⟨k,hk,rfl,hB,hr⟩:=hrel;by_cases hlt:k<l.length
  ·have hd:=cS hlt;have hsl:=(HS.out.keep RPr.keeps hB.out).sl;obtain ⟨b,o,rfl,hb,hx⟩:=hsl.at_ hlt;have HP:Hid (prevP l (k+1)=some l[k]):=aF (by unfold prevP;rw [aZ (by omega)];simp [hlt])
   have HQ:Hid (∀j,k=j+1->∃q,prevP l k=some q/\RPr wr wr.heap.size b (o+j * 2) q):=aF (fun j hj=>by
    obtain ⟨b',o',hbo,_,hz⟩:=hsl.at_ (show j<l.length by omega);obtain ⟨rfl,rfl⟩:b=b'/\o=o':=by simpa using hbo
    exact ⟨l[j],by unfold prevP;rw [aZ (by omega),show k - 1=j by omega];exact bD (by omega),hz⟩)
   obtain ⟨p,hp⟩:∃p,l[k]=p:=⟨_,rfl⟩;rw [hp] at hd hx HP;obtain ⟨x0,x1⟩:=hx;have HN:Hid (R=if pairE n (prevP l k) p=0 then pairsE n (some p) (l.drop (k+1)) else pairE n (prevP l k) p):=aF (by rw [hr.out,hd,gZ]);have hsz:=hB.out.size;obtain ⟨p1,p2⟩:=p;simp only at x0 x1;clear hd hr hsl hp;by_cases hrg:p1<0\/p2<0\/n<=p1\/n<=p2
   ·have HF:Hid (R=3):=aF (by rw [HN.out,mV hrg];rfl);clear HN;go_wp2_with fail
    all_goals first
     | (go_ret;exact ⟨by rw [HF.out];rfl,hB.out.alloc (by omega) _⟩)
     | (exfalso;omega)
   have e1:¬min p1 p2<0:=by omega
   have e2:¬n<=max p1 p2:=by omega
   by_cases hsm:p1=p2
   ·have HF:Hid (R=2):=aF (by rw [HN.out,pO hrg hsm];rfl);have e3:(p1 == p2)=true:=by simp [hsm]
    clear HN hrg;go_wp2_with fail
    all_goals first
     | (go_ret;exact ⟨by rw [HF.out];rfl,hB.out.alloc (by omega) _⟩)
     | (exfalso;omega)
   have e3:(p1 == p2)=false:=by simp [hsm]
   obtain ⟨W,hW⟩:∃W,W=wr.alloc (.cells #[.int .i64 p1,.int .i64 p2] 77):=⟨_,rfl⟩;have hBW:Below w.heap.size w W:=by rw [hW];exact hB.out.alloc (by omega) _
   have HBW:=aF hBW;rcases (show k=0\/∃j,k=j+1 from by cases k;exact .inl rfl;exact .inr ⟨_,rfl⟩) with rfl | ⟨j,rfl⟩
   ·have HF:Hid (R=pairsE n (prevP l 1) (l.drop 1)):=aF (by rw [HN.out,show prevP l 0=none from rfl,pP hrg hsm,bA rfl,HP.out]);clear HN hrg hsm hBW;simp only [Nat.zero_mul,Nat.add_zero] at x0 x1;go_wp2_with fail
    have hS:True:=trivial;refine eM (S:=fun _=>True) (by kernel_rfl) ?_;(iterate 3 (refine dG (v:=?_) (by kernel_rfl) (fun _ _ _ h=>h) (Or.inl ⟨by rfl,?_⟩) hS ?_;rotate_left;(next=>(rintro X _;(try simp only [aJ]);go_simp;rfl));simp only [aJ,Act.put,aK]));(iterate 8 (refine dG (v:=undef) (by kernel_rfl) (fun _ _ _ h=>h) (Or.inr ⟨by rfl,rfl⟩) hS ?_;simp only [aJ,Act.put,aK]));(iterate 2 (refine dG (v:=?_) (by kernel_rfl) (fun _ _ _ h=>h) (Or.inl ⟨by rfl,?_⟩) hS ?_;rotate_left;(next=>(rintro X _;(try simp only [aJ]);go_simp;rfl));simp only [aJ,Act.put,aK]));refine eW rfl ?_;go_wp2_with fail
    go_roundw
    case rel=>exact ⟨1,by omega,by go_num,aF (by rw [<- hW];exact HBW.out.drew),HF⟩
    case measure=>simp [intOf];omega
   ·obtain ⟨q,hq,q0,q1⟩:=HQ.out j rfl
    have HF:Hid (R=if 0<=cmp2 q (p1,p2) then 21 else pairsE n (prevP l (j+1+1)) (l.drop (j+1+1))):=aF (by
     rw [HN.out,hq,pN hrg hsm,HP.out]
     split <;> simp)
    obtain ⟨n0,n1⟩:=nM wr (.int .i64 p1) (.int .i64 p2) 77;have hk0:Below wr.heap.size wr (wr.alloc (.cells #[.int .i64 p1,.int .i64 p2] 77)):=(aX _ _).alloc (aY _) _;have HC:=aF (gI q (p1,p2) b (o+j * 2) wr.heap.size 0 (wr.alloc (.cells #[.int .i64 p1,.int .i64 p2] 77)).drew ((hk0.cell (p:=⟨b,o+j * 2,none⟩) hb).trans q0) ((hk0.cell (p:=⟨b,o+j * 2+1,none⟩) hb).trans q1) n0 n1);generalize cmp2 q (p1,p2)=cm at HF HC;clear HN hrg hsm hBW hq q0 q1 n0 n1 hk0;have hwk:IntKind.i64.wrap (j:Int)=(j:Int):=by rw [IntKind.wrap_i64];omega
    have hj1:(j:Int)<(l.length:Int):=(by omega);go_wp2_with fail
    have hS:True:=trivial;refine eM (S:=fun _=>True) (by kernel_rfl) ?_;(iterate 9 (refine dG (v:=?_) (by kernel_rfl) (fun _ _ _ h=>h) (Or.inl ⟨by rfl,?_⟩) hS ?_;rotate_left;(next=>(rintro X _;(try simp only [aJ]);go_simp;rfl));simp only [aJ,Act.put,aK]));(refine mD (by kernel_rfl) (fun K1 hK1=>?_);simp only [aJ,Act.put,aK];rw [bA (by rfl)];go_simp);refine HC.out.mono ?_;rintro e' w3 ⟨rfl,hw⟩;obtain rfl:=hw.symm;refine hK1.out _ _ (fun _=>trivial) ?_;(iterate 3 (refine dG (v:=?_) (by kernel_rfl) (fun _ _ _ h=>h) (Or.inl ⟨by rfl,?_⟩) hS ?_;rotate_left;(next=>(rintro X _;(try simp only [aJ]);go_simp;rfl));simp only [aJ,Act.put,aK]));refine eW rfl ?_;by_cases hcm:0<=cm
    ·have HF':Hid (R=21):=aF (by rw [HF.out,bA hcm]);clear HF;go_wp2_with fail
     go_ret;exact ⟨by rw [HF'.out];rfl,by rw [<- hW];exact HBW.out.drew⟩
    ·have HF':Hid (R=pairsE n (prevP l (j+1+1)) (l.drop (j+1+1))):=aF (by rw [HF.out,aZ hcm]);clear HF;go_wp2_with fail
     go_roundw
     case rel=>exact ⟨j+1+1,by omega,by go_num,aF (by rw [<- hW];exact HBW.out.drew),HF'⟩
     case measure=>simp [intOf];omega
  ·have HN:Hid (R=0):=aF (by rw [hr.out,bE (by omega)];rfl);clear hr;go_wp2_with fail
   go_ret;exact ⟨by rw [HN.out];rfl,hB.out⟩
end
section
open Go Go.RowKit Go.Maps
def OwnB (P:Program) (k e:TypeId) (w:World) (b n:Nat) (f:Lit->Bool):Prop:=
 ∃D:DataW Unit,w.ownsMap P k (plainElem P e) b n D/\∀kl,D.atKey kl (.lit (.bool false)) = .lit (.bool (f kl))
def strF (g:List UInt8->Bool):Lit->Bool
 | .string l=>g l
 | _=>false
section
variable {P:Program} {k e:TypeId} {w:World} {b n:Nat} {f:Lit->Bool}
theorem lK (he:P.underlying e=some .bool) (v:Bool):plainElem (H:=Unit) P e (.bool v)=some (.lit (.bool v),[]):=plainElem_bool he v
theorem jP (he:P.underlying e=some .bool) {v:Value} {z:DataW Unit × List MemPlace} (h:plainElem P e v=some z):∃x,v = .bool x/\z=(.lit (.bool x),[]):=by
 unfold plainElem at h;rw [he] at h;cases v <;> simp at h
 exact ⟨_,rfl,h.symm⟩
theorem OwnB.made (w:World) (P:Program) (k e:TypeId):OwnB P k e (w.alloc (.map #[] 0)) w.heap.size 0 (fun _=>false):=
 ⟨.map [],World.ownsMap_made w P k _,fun _=>rfl⟩
theorem OwnB.kept {w':World} {row:Option Nat} (h:OwnB P k e w b n f) (hg:w.grownBy w' row) (hne:some b≠row):OwnB P k e w' b n f:=by
 obtain ⟨D,h1,h2⟩:=h;exact ⟨D,h1.kept hg hne,h2⟩
theorem OwnB.alloc (h:OwnB P k e w b n f) (o:Obj):OwnB P k e (w.alloc o) b n f:=h.kept (World.grownBy_alloc w o none) (by simp)
theorem OwnB.lt (h:OwnB P k e w b n f):b<w.heap.size:=by
 obtain ⟨D,h1,_⟩:=h;exact h1.lt
theorem OwnB.block {w':World} (h:OwnB P k e w b n f) (hb:w'.heap[b]?=w.heap[b]?):OwnB P k e w' b n f:=by
 obtain ⟨D,⟨es,clock,h1,h3,h4,h5⟩,h2⟩:=h;exact ⟨D,⟨es,clock,hb.trans h1,h3,h4,h5⟩,h2⟩
theorem OwnB.below {w':World} (h:OwnB P k e w b n f) (hb:Below w.heap.size w w'):OwnB P k e w' b n f:=h.block (hb.block b h.lt)
theorem OwnB.look {t:TypeId} (h:OwnB P k e w b n f) (K:Keyed P k) (ht:P.underlying t=some (.map k e)) (he:P.underlying e=some .bool) (hz:(zeroValue e).run P w = .ok (.bool false) w)
 {key:Value} {kl:Lit} (hkey:keyOf P k key=some kl):(Instr.lookup t (.map (some b)) key false).run P w = .ok (.bool (f kl)) w:=by
 obtain ⟨D,h1,h2⟩:=h;obtain ⟨v,ps,hrun,hv⟩:=h1.lookup K ht hz (lK he false) hkey;obtain ⟨x,rfl,hx⟩:=jP he hv;rw [h2] at hx;injection hx with hx
 injection hx with hx
 injection hx with hx
 rw [hrun,hx]
theorem OwnB.store {t:TypeId} (h:OwnB P k e w b n f) (K:Keyed P k) (ht:P.underlying t=some (.map k e)) (he:P.underlying e=some .bool) (hn:n<maxLen)
 {key:Value} {kl:Lit} (hkey:keyOf P k key=some kl) (hk:WideAt.IsKeyLit kl) (v:Bool) {f':Lit->Bool} (f1:f' kl=v) (f2:∀x,x≠kl->f' x=f x):
 ∃w',(Instr.mapUpdate t (.map (some b)) key (.bool v)).run P w = .ok () w'/\OwnB P k e w' b (n+1) f'/\w.grownBy w' (some b):=by
 obtain ⟨D,h1,h2⟩:=h;obtain ⟨w',hrun,h3,h4⟩:=h1.update K ht hn hkey (lK he v);refine ⟨w',hrun,⟨_,h3,fun x=>?_⟩,h4⟩;by_cases hx:x=kl
 ·subst hx;rw [atKey_put_same h1.isMap hk,f1]
 ·rw [atKey_put_other hx,f2 x hx,h2]
end
theorem dA {P:Program} (w:World) {ops:Array Oper} {rest:List Oper} {o:Oper} {a:Act} {Q:Exit->Act->World->Prop}
 (hg:o.guard=none) (m x:Operand) (t:TypeId) (hop:o.op=Op.lookup t m x false)
 (k e:TypeId) (K:Keyed P k) (ht:P.underlying t=some (.map k e)) (he:P.underlying e=some .bool) (hz:(zeroValue e).run P w = .ok (.bool false) w) (b n:Nat) (f:Lit->Bool)
 (hm:a.eval m = .map (some b)) (hown:OwnB P k e w b n f) (key:Value) (kl:Lit) (hx:a.eval x=key) (hkey:keyOf P k key=some kl)
 (hK:wpList P ops Q rest (a.put o.dst (.bool (f kl))) w):
 wpList P ops Q (o :: rest) a w:=by
 refine wpList_plain hg fun K' hK'=>?_
 unfold Oper.wp;simp [execOp,hop,hm,hx,hown.look K ht he hz hkey,Result.andThen];exact hK' _ _ hK
theorem dT {P:Program} (w:World) {ops:Array Oper} {rest:List Oper} {o:Oper} {a:Act} {Q:Exit->Act->World->Prop}
 (hg:o.guard=none) (m x v:Operand) (t:TypeId) (hop:o.op=Op.mapUpdate t m x v)
 (k e:TypeId) (K:Keyed P k) (ht:P.underlying t=some (.map k e)) (he:P.underlying e=some .bool) (b n:Nat) (f:Lit->Bool)
 (hm:a.eval m = .map (some b)) (hown:OwnB P k e w b n f) (hn:n<maxLen) (key:Value) (kl:Lit) (val:Bool) (hx:a.eval x=key) (hv:a.eval v = .bool val) (hkey:keyOf P k key=some kl) (hk:WideAt.IsKeyLit kl)
 (f':Lit->Bool) (f1:f' kl=val) (f2:∀x,x≠kl->f' x=f x)
 (hK:∀w',OwnB P k e w' b (n+1) f'->w.grownBy w' (some b)->wpList P ops Q rest (a.put o.dst undef) w'):
 wpList P ops Q (o :: rest) a w:=by
 refine wpList_plain hg fun K' hK'=>?_
 obtain ⟨w',hrun,r1,r2⟩:=hown.store K ht he hn hkey hk val f1 f2;unfold Oper.wp;simp [execOp,hop,hm,hx,hv,hrun,Result.andThen];exact hK' _ _ (hK w' r1 r2)
def OwnV (P:Program) (k:TypeId) (w:World) (b n:Nat) (f:Lit->Value) (z:Value):Prop:=
 ∃D:DataW Value,w.ownsMap P k (fun v=>some (.held v,[])) b n D/\∀kl,D.atKey kl (.held z) = .held (f kl)
section
variable {P:Program} {k:TypeId} {w:World} {b n:Nat} {f:Lit->Value} {z:Value}
theorem OwnV.made (w:World) (P:Program) (k:TypeId) (z:Value):OwnV P k (w.alloc (.map #[] 0)) w.heap.size 0 (fun _=>z) z:=
 ⟨.map [],World.ownsMap_made w P k _,fun _=>rfl⟩
theorem OwnV.lt (h:OwnV P k w b n f z):b<w.heap.size:=by
 obtain ⟨D,h1,_⟩:=h;exact h1.lt
theorem OwnV.block {w':World} (h:OwnV P k w b n f z) (hb:w'.heap[b]?=w.heap[b]?):OwnV P k w' b n f z:=by
 obtain ⟨D,⟨es,clock,h1,h3,h4,h5⟩,h2⟩:=h;exact ⟨D,⟨es,clock,hb.trans h1,h3,h4,h5⟩,h2⟩
theorem OwnV.look {t e:TypeId} (h:OwnV P k w b n f z) (K:Keyed P k) (ht:P.underlying t=some (.map k e)) (hz:(zeroValue e).run P w = .ok z w)
 {key:Value} {kl:Lit} (hkey:keyOf P k key=some kl):(Instr.lookup t (.map (some b)) key false).run P w = .ok (f kl) w:=by
 obtain ⟨D,h1,h2⟩:=h;obtain ⟨v,ps,hrun,hv⟩:=h1.lookup K ht hz rfl hkey;rw [h2] at hv;injection hv with hv
 injection hv with hv
 injection hv with hv
 rw [hrun,hv]
theorem OwnV.store {t e:TypeId} (h:OwnV P k w b n f z) (K:Keyed P k) (ht:P.underlying t=some (.map k e)) (hn:n<maxLen)
 {key:Value} {kl:Lit} (hkey:keyOf P k key=some kl) (hk:WideAt.IsKeyLit kl) (v:Value) {f':Lit->Value} (f1:f' kl=v) (f2:∀x,x≠kl->f' x=f x):
 ∃w',(Instr.mapUpdate t (.map (some b)) key v).run P w = .ok () w'/\OwnV P k w' b (n+1) f' z/\w.grownBy w' (some b):=by
 obtain ⟨D,h1,h2⟩:=h;obtain ⟨w',hrun,h3,h4⟩:=h1.update K ht hn hkey (d:= .held v) rfl;refine ⟨w',hrun,⟨_,h3,fun x=>?_⟩,h4⟩;by_cases hx:x=kl
 ·subst hx;rw [atKey_put_same h1.isMap hk,f1]
 ·rw [atKey_put_other hx,f2 x hx,h2]
end
theorem dP {w w':World} {b n:Nat} (hg:w.grownBy w' (some b)) (hb:n<=b) (hs:n<=w.heap.size):Below n w w':=
 ⟨hg.os,hg.tape,hg.output,hg.size,fun k hk=>hg.block k (by omega) (by simp;omega)⟩
end
section
open Go Go.RowKit Go.Maps
def nilS:Value:= .slice none 0 0
def mapF (g:Int->Value):Lit->Value
 | .int .i64 n=>g n
 | _=>nilS
theorem oD {g g':Int->Value} {x:Int} (h:∀y,y≠x->g' y=g y):∀k,k≠Lit.int .i64 x->mapF g' k=mapF g k:=by
 intro k hk;cases k <;> try rfl
 rename_i q n;cases q <;> try rfl
 exact h n (fun e=>hk (by rw [e]))
theorem law3:Keyed Tryz.prog 3:=int_keyed Tryz.underlying3
theorem key3 {a:Int} (h0:0<=a) (h1:a<=9223372036854775807):keyOf Tryz.prog 3 (.int .i64 a)=some (.int .i64 a):=keyOf_int_mk Tryz.underlying3 (WalkArith.wf_i64 (by omega))
structure GI (w:World) (base rel:Nat) (M:Bool->Nat) (c:Nat) (n:Int) (L:Bool->Int->List Int) (F:Bool->Int->Value):Prop where
 head:w.heap[rel]?=some (.cells #[.int .i64 n,.map (some (M false)),.map (some (M true))] 209)
 maps:∀s,OwnV Tryz.prog 3 w (M s) c (mapF (F s)) nilS
 rows:∀s x,w.ownsRow base 3 1 (F s x) (L s x).length ((L s x).map (Value.int .i64))
 apart:∀s x s' x' g,(F s x).ownBlock=some g->(F s' x').ownBlock=some g->s=s'/\x=x'
 lrel:rel<base
 lmap:∀s,M s<base
 ne1:∀s,M s≠rel
 ne2:M false≠M true
 low:base<=w.heap.size
theorem OwnV.mono {P:Program} {k:TypeId} {w:World} {b n n':Nat} {f:Lit->Value} {z:Value} (h:OwnV P k w b n f z) (hn:n<=n'):OwnV P k w b n' f z:=by
 obtain ⟨D,h1,h2⟩:=h;exact ⟨D,h1.mono hn,h2⟩
theorem GI.keep {w w':World} {base rel c:Nat} {M:Bool->Nat} {n:Int} {L:Bool->Int->List Int} {F:Bool->Int->Value} (h:GI w base rel M c n L F) (hb:Below w.heap.size w w'):GI w' base rel M c n L F:=
 ⟨(hb.block _ (Array.getElem?_eq_some_iff.1 h.head).1).trans h.head,fun s=>(h.maps s).block (hb.block _ (h.maps s).lt),fun s x=>dB (h.rows s x) hb,h.apart,h.lrel,h.lmap,h.ne1,h.ne2,bZ h.low hb.size⟩
def updL (L:Bool->Int->List Int) (s:Bool) (x:Int) (l:List Int):Bool->Int->List Int:=fun s' x'=>if s'=s/\x'=x then l else L s' x'
def updF (F:Bool->Int->Value) (s:Bool) (x:Int) (v:Value):Bool->Int->Value:=fun s' x'=>if s'=s/\x'=x then v else F s' x'
theorem xV {w _w':World} {_base:Nat} {v v':Value} {g:Nat} (h:v'.ownBlock=v.ownBlock\/v'.ownBlock=some w.heap.size) (hg:v'.ownBlock=some g) (hlt:g<w.heap.size):v.ownBlock=some g:=by
 rcases h with h | h
 ·rw [<- h];exact hg
 ·rw [h] at hg;injection hg with hg
  omega
theorem GI.step {w w2 w3:World} {base rel c:Nat} {M:Bool->Nat} {n:Int} {L:Bool->Int->List Int} {F:Bool->Int->Value} (h:GI w base rel M c n L F) (s:Bool) (x:Int) (y:Int) (v':Value)
 (hown:w2.ownsRow base 3 1 v' ((L s x).length+1) ((L s x).map (Value.int .i64) ++ [.int .i64 y])) (hgrow:w.grownBy w2 (F s x).ownBlock) (hloc:v'.ownBlock=(F s x).ownBlock\/v'.ownBlock=some w.heap.size)
 (hmap:OwnV Tryz.prog 3 w3 (M s) (c+1) (mapF (updF F s x v' s)) nilS) (hgrow2:w2.grownBy w3 (some (M s))):
 GI w3 base rel M (c+1) n (updL L s x (L s x ++ [y])) (updF F s x v'):=by
 have hne:∀k,k<base->some k≠(F s x).ownBlock:=fun k hk e=>by
  have:=((h.rows s x).lt k e.symm).1;omega
 have hk3:∀k,k<w.heap.size->k<base->k≠M s->w3.heap[k]?=w.heap[k]?:=fun k hk hkb hkm=>
  (hgrow2.block k (bO hk hgrow.size) (by simpa using hkm)).trans (hgrow.block k hk (hne k hkb))
 have hlow:=h.low;refine ⟨?_,?_,?_,?_,h.lrel,h.lmap,h.ne1,h.ne2,bZ hlow (bZ hgrow.size hgrow2.size)⟩
 ·rw [hk3 rel (by have:=h.lrel;omega) h.lrel (fun e=>h.ne1 s e.symm)];exact h.head
 ·intro s';by_cases hs:s'=s
  ·subst hs;exact hmap
  ·have hms:M s'≠M s:=by
    have:=h.ne2;cases s <;> cases s' <;> simp_all [eq_comm]
   have:mapF (updF F s x v' s')=mapF (F s'):=by
    congr 1
    funext x'
    unfold updF;rw [aZ (fun e=>hs e.1)]
   rw [this];exact ((h.maps s').mono (Nat.le_succ c)).block (hk3 _ (h.maps s').lt (h.lmap s') hms)
 ·intro s' x';unfold updL updF;by_cases he:s'=s/\x'=x
  ·rw [bA he,bA he,bB,cG,bU];refine dU hown (fun k hk hk2 _=>?_);exact hgrow2.block k hk2 (by have:=h.lmap s;simp;omega)
  ·rw [aZ he,aZ he];refine dU (h.rows s' x') (fun k hk hk2 hkr=>?_);refine (hgrow2.block k (bO hk2 hgrow.size) (by have:=h.lmap s;simp;omega)).trans (hgrow.block k hk2 (fun e=>?_));exact he (h.apart s' x' s x k hkr.symm e.symm)
 ·intro s1 x1 s2 x2 g h1 h2;unfold updF at h1 h2
  have key:∀s' x',¬(s'=s/\x'=x)->v'.ownBlock=some g->(F s' x').ownBlock=some g->False:=fun s' x' hn hv hf=>by
   have hlt:=((h.rows s' x').lt g hf).2;exact hn (h.apart s' x' s x g hf (xV (_w':=w) (_base:=base) hloc hv hlt))
  by_cases e1:s1=s/\x1=x <;> by_cases e2:s2=s/\x2=x
  ·exact ⟨e1.1.trans e2.1.symm,e1.2.trans e2.2.symm⟩
  ·rw [bA e1] at h1;rw [aZ e2] at h2;exact (key s2 x2 e2 h1 h2).elim
  ·rw [aZ e1] at h1;rw [bA e2] at h2;exact (key s1 x1 e1 h2 h1).elim
  ·rw [aZ e1] at h1;rw [aZ e2] at h2;exact h.apart s1 x1 s2 x2 g h1 h2
def Rel3 (w:World) (r:Nat) (n:Int) (L:Bool->Int->List Int):Prop:=∃M:Bool->Nat,w.heap[r]?=some (.cells #[.int .i64 n,.map (some (M false)),.map (some (M true))] 209)/\
 (∀s x,0<=x->x<=9223372036854775807->∃A c,(∀W:World,Below w.heap.size w W->(Instr.lookup 207 (.map (some (M s))) (.int .i64 x) false).run Tryz.prog W = .ok (.slice A (L s x).length c) W)/\Slc 1 RInt w A c (L s x))
theorem Rel3.keep {w w':World} {r:Nat} {n:Int} {L:Bool->Int->List Int} (h:Rel3 w r n L) (hb:Below w.heap.size w w'):Rel3 w' r n L:=by
 obtain ⟨M,h1,h2⟩:=h;refine ⟨M,(hb.block _ (Array.getElem?_eq_some_iff.1 h1).1).trans h1,fun s x h0 h9=>?_⟩;obtain ⟨A,c,h3,h4⟩:=h2 s x h0 h9;exact ⟨A,c,fun W hW=>h3 W (hb.trans (hW.mono hb.size)),h4.keep RInt.keeps hb⟩
theorem qG:∀w,(zeroValue 58).run Tryz.prog w = .ok nilS w:=Tryz.zeroValue58
theorem GI.rel3 {w:World} {base rel c:Nat} {M:Bool->Nat} {n:Int} {L:Bool->Int->List Int} {F:Bool->Int->Value} (h:GI w base rel M c n L F):Rel3 w rel n L:=by
 refine ⟨M,h.head,fun s x h0 h9=>?_⟩;obtain ⟨A,c',hv,hs⟩:=dE (h.rows s x);refine ⟨A,c',fun W hW=>?_,hs⟩;have:=(((h.maps s).block (hW.block _ (h.maps s).lt)).look law3 Tryz.underlying207 (qG W) (key3 h0 h9));rw [this];show Result.ok (F s x) W=_;rw [hv]
end
section
open Go Go.RowKit
theorem eU (l:List Int) (A:Option Addr) (c:Nat) (w:World) (hs:Slc 1 RInt w A c l):
 Calls Tryz.prog 109 #[.slice A l.length c] w fun e' w'=>e' = .returned (.int .i64 (firstE l))/\w'=w:=by
 have hle:=hs.le;have hbig:=hs.big;obtain ⟨R,hR⟩:∃R,firstE l=R:=⟨_,rfl⟩;rw [hR];have HR:=aF hR;have HS:=aF hs;clear hR hs;go_enter Tryz.func109,Tryz.ntmps109
 go_wp2_with fail
 go_loop [7] (fun v=>∃k:Nat,k<=l.length/\v = .int .i64 k/\Hid (R=firstE (l.drop k))) (fun v=>l.length - (intOf v).toNat)
 case atStart=>exact ⟨0,by omega,rfl,aF HR.out.symm⟩
 case round=>
  obtain ⟨k,hk,rfl,hr⟩:=hrel;by_cases hlt:k<l.length
  ·have hd:=cS hlt;obtain ⟨b,o,rfl,hb,hx⟩:=HS.out.sl.at_ hlt;obtain ⟨y,hy⟩:∃y,l[k]=y:=⟨_,rfl⟩;rw [hy] at hd hx;have x0:w.cell? ⟨b,o+k,none⟩=some (.int .i64 y):=by simpa [RInt] using hx
   clear hx;by_cases h0:y=0
   ·have HN:Hid (R=firstE (l.drop (k+1))):=aF (by rw [hr.out,hd,firstE,bA h0]);clear hd hr hy;go_wp2_with fail
    go_round
    case rel=>exact ⟨k+1,by omega,by go_num,HN⟩
    case measure=>simp [intOf];omega
   ·have HN:Hid (R=y):=aF (by rw [hr.out,hd,firstE,aZ h0]);have e1:(y == 0)=false:=by simp [h0]
    clear hd hr hy h0;go_wp2_with fail
    go_ret;exact ⟨by rw [HN.out];rfl,rfl⟩
  ·have HN:Hid (R=0):=aF (by rw [hr.out,bE (by omega)];rfl);clear hr;go_wp2_with fail
   go_ret;exact ⟨by rw [HN.out];rfl,rfl⟩
def depQ:Option Int->Int × Bool
 | none=>(0,false)
 | some k=>(k,true)
def depP (ds l:List Int):Int × Bool:=depQ (depF ds 0 l)
theorem eC (ds l:List Int) (g:Nat) (A B:Option Addr) (c d:Nat) (w:World) (hg:w.cell? ⟨g,1,none⟩=some (.slice B ds.length d)) (hd:Slc 1 RInt w B d ds) (hs:Slc 1 RInt w A c l):
 Calls Tryz.prog 181 #[.pointer (some ⟨g,0,none⟩),.slice A l.length c] w fun e' w'=>e' = .returned (.tuple #[.int .i64 (depP ds l).1,.bool (depP ds l).2])/\w'=w:=by
 have hle:=hs.le;have hbig:=hs.big;have dle:=hd.le;have dbig:=hd.big;obtain ⟨R,hR⟩:∃R,depF ds 0 l=R:=⟨_,rfl⟩;unfold depP;rw [hR];have HR:=aF hR;have HS:=aF hs;have HD:=aF hd;clear hR hs hd;obtain ⟨q,hq⟩:∃q:Int × Bool,depQ R=q:=⟨_,rfl⟩;rw [hq];have HQ:=aF hq;clear hq;go_enter Tryz.func181,Tryz.ntmps181
 go_wp2_with fail
 go_loop [6,11] (fun a v=>∃(k:Nat) (m:Int),k<=l.length/\a = .int .i64 m/\v = .int .i64 k/\Hid (R=depF ds m (l.drop k))) (fun _ v=>l.length - (intOf v).toNat)
 case atStart=>exact ⟨0,0,by omega,rfl,rfl,aF HR.out.symm⟩
 case round=>
  obtain ⟨k,m,hk,rfl,rfl,hr⟩:=hrel;by_cases hlt:k<l.length
  ·have hdr:=cS hlt;obtain ⟨b,o,rfl,hb,hx⟩:=HS.out.sl.at_ hlt;obtain ⟨y,hy⟩:∃y,l[k]=y:=⟨_,rfl⟩;rw [hy] at hdr hx;have x0:w.cell? ⟨b,o+k,none⟩=some (.int .i64 y):=by simpa [RInt] using hx
   clear hx hy;by_cases h1:y<0
   ·have HN:Hid (q=(0,false)):=aF (by rw [<- HQ.out,hr.out,hdr,depF,bA h1];rfl);clear hdr hr;go_wp2_with fail
    go_ret2
    exact ⟨by rw [HN.out];rfl,rfl⟩
   ·obtain ⟨n,rfl⟩:=bG (show 0<=y by omega);by_cases h2:n<ds.length
    ·obtain ⟨b2,o2,rfl,hb2,hz⟩:=HD.out.sl.at_ h2;have HN:Hid (R=depF ds (max m ds[n]) (l.drop (k+1))):=aF (by rw [hr.out,hdr,depF,aZ h1,bW,bD h2]);obtain ⟨z,hzz⟩:∃z,ds[n]=z:=⟨_,rfl⟩;rw [hzz] at hz HN;have x1:w.cell? ⟨b2,o2+n,none⟩=some (.int .i64 z):=(by simpa [RInt] using hz);clear hdr hr hz hzz;go_wp2_with fail
     go_round
     case rel=>exact ⟨k+1,max m z,by omega,by go_num,by go_num,HN⟩
     case measure=>simp [intOf];omega
    ·have HN:Hid (q=(0,false)):=aF (by rw [<- HQ.out,hr.out,hdr,depF,aZ h1,bW,cE (by omega)];rfl);clear hdr hr;go_wp2_with fail
     go_ret2
     exact ⟨by rw [HN.out];rfl,rfl⟩
  ·have HN:Hid (q=(m,true)):=aF (by rw [<- HQ.out,hr.out,bE (by omega)];rfl);clear hr;go_wp2_with fail
   go_ret2
   exact ⟨by rw [HN.out];rfl,rfl⟩
theorem ty_eq (s t:Ty):decide (s=t)=(decide (s.kind=t.kind) && decide (s.mu=t.mu) && decide (s.reg=t.reg) && decide (s.elem=t.elem) && decide (s.flds=t.flds)):=by
 cases s;cases t
 simp [Bool.and_assoc]
theorem xB (s t:Ty) (A B:Option Addr) (c d:Nat) (w:World) (hs:Slc 1 RInt w A c s.flds) (ht:Slc 1 RInt w B d t.flds):
 Calls Tryz.prog 184 #[tyAgg s A c,tyAgg t B d] w fun e' w'=>e' = .returned (.bool (decide (s=t)))/\Below w.heap.size w w':=by
 obtain ⟨r,hr⟩:∃r,decide (s.flds=t.flds)=r:=⟨_,rfl⟩;have HE:=aF (fun W hb=>sW A B c d s.flds t.flds W (hs.keep RInt.keeps hb) (ht.keep RInt.keeps hb));rw [ty_eq,hr];rw [hr] at HE;clear hs ht hr;unfold tyAgg;obtain ⟨q,hq⟩:∃q,(decide (s.kind=t.kind) && decide (s.mu=t.mu) && decide (s.reg=t.reg) && decide (s.elem=t.elem) && r)=q:=⟨_,rfl⟩;rw [hq];have HQ:=aF hq;clear hq;go_enter Tryz.func184,Tryz.ntmps184
 go_wp2_with (go_at_call 209;refine (HE.out _ (bel2 _ _ _)).mono ?_;rintro e' w1 ⟨rfl,n,rfl⟩)
 all_goals
  go_ret;refine ⟨?_,aH⟩;rw [<- HQ.out];simp_all
theorem sQ (x t:Ty) (A:Option Addr) (c h:Nat) (w:World) (hx:Slc 1 RInt w A c x.flds) (hh:h<w.heap.size) (ht:RTy w w.heap.size h 0 t):
 Calls Tryz.prog 183 #[tyAgg x A c,.pointer (some ⟨h,0,none⟩)] w fun e' w'=>e' = .returned (.bool (decide (x=t)))/\Below w.heap.size w w':=by
 obtain ⟨r1,r2,r3,r4,A2,c2,r5,r6,r7,r8⟩:=ht;have HE:=aF (fun W hb=>xB x t A A2 c c2 W (hx.keep RInt.keeps hb) ((⟨r8,r6,r7⟩:Slc 1 RInt w A2 c2 t.flds).keep RInt.keeps hb));generalize decide (x=t)=q at HE ⊢;unfold tyAgg at HE ⊢;have hls:=cY hh;clear hx r8;go_enter Tryz.func183,Tryz.ntmps183
 go_wp2_with (go_at_call 184;refine (HE.out _ ((aX _ _).alloc (aY _) _)).mono ?_;rintro e' w1 ⟨rfl,hb1⟩)
 go_ret;exact ⟨rfl,((aX _ _).alloc (aY _) _).trans (hb1.mono (by simp))⟩
def eqT (t x:Ty):Bool:=decide (x=t)
theorem sP (ts:List Ty) (t:Ty) (A:Option Addr) (c h:Nat) (w:World) (hs:Slc 5 RTy w A c ts) (hh:h<w.heap.size) (ht:RTy w w.heap.size h 0 t):
 Calls Tryz.prog 182 #[.slice A ts.length c,.func (.func 183) #[] #[.pointer (some ⟨h,0,none⟩)]] w fun e' w'=>e' = .returned (.int .i64 (idxF (eqT t) 0 ts))/\Below w.heap.size w w':=by
 have hle:=hs.le;have hbig:=hs.big;obtain ⟨R,hR⟩:∃R,idxF (eqT t) 0 ts=R:=⟨_,rfl⟩;rw [hR];have HR:=aF hR;have HS:=aF hs;have HT:=aF ht;clear hR hs ht;go_enter Tryz.func182,Tryz.ntmps182
 go_wp2_with fail
 go_loopw [8] (fun v wr=>∃k:Nat,k<=ts.length/\v = .int .i64 k/\Hid (Below w.heap.size w wr)/\Hid (R=idxF (eqT t) k (ts.drop k))) (fun v _=>ts.length - (intOf v).toNat)
 case atStart=>exact ⟨0,by omega,rfl,aF (aX _ _),aF HR.out.symm⟩
 case round=>
  obtain ⟨k,hk,rfl,hB,hr⟩:=hrel;by_cases hlt:k<ts.length
  ·have hd:=cS hlt;obtain ⟨b,o,rfl,hb,hx⟩:=(HS.out.keep RTy.keeps hB.out).sl.at_ hlt;obtain ⟨x,hxx⟩:∃x,ts[k]=x:=⟨_,rfl⟩;rw [hxx] at hd hx;obtain ⟨r1,r2,r3,r4,A2,c2,r5,r6,r7,r8⟩:=hx;have HC:=aF (sQ x t A2 c2 h wr ⟨r8,r6,r7⟩ (bO hh hB.out.size) (RTy.keeps w wr _ _ h 0 t hB.out.size hh hB.out HT.out));change Hid (Calls Tryz.prog 183 _ _ fun e' w'=>e' = .returned (.bool (eqT t x))/\_) at HC;have hsz:=hB.out.size;have HN:Hid (R=if eqT t x=true then (k:Int) else idxF (eqT t) (k+1) (ts.drop (k+1))):=aF (by rw [hr.out,hd];rfl);generalize eqT t x=q at HC HN;clear hd hr hxx r8;unfold tyAgg at HC;cases q
   ·have HF:Hid (R=idxF (eqT t) (k+1) (ts.drop (k+1))):=HN;clear HN;go_wp2_with (go_at_call 183;refine HC.out.mono ?_;rintro e' w1 ⟨rfl,hb1⟩)
    go_roundw
    case rel=>exact ⟨k+1,by omega,by go_num,aF (hB.out.trans (hb1.mono hsz)),HF⟩
    case measure=>simp [intOf];omega
   ·have HF:Hid (R=k):=HN;clear HN;go_wp2_with (go_at_call 183;refine HC.out.mono ?_;rintro e' w1 ⟨rfl,hb1⟩)
    go_ret;exact ⟨by rw [HF.out];rfl,hB.out.trans (hb1.mono hsz)⟩
  ·have HN:Hid (R = -1):=aF (by rw [hr.out,bE (by omega)];rfl);clear hr;go_wp2_with fail
   go_ret;exact ⟨by rw [HN.out];rfl,hB.out⟩
theorem yV (t:Ty) (ts:List Ty):ts.any (eqT t)=decide (t∈ts):=by
 rw [bR];simp only [List.any_eq_true,eqT,decide_eq_true_eq];exact ⟨fun ⟨x,h,e⟩=>e ▸ h,fun h=>⟨t,h,rfl⟩⟩
def findP (b:Bool) (e':Ending):Prop:=∃i:Int,e' = .returned (.tuple #[.int .i64 i,.bool b])
theorem sO (ts:List Ty) (t:Ty) (A B:Option Addr) (c d:Nat) (w:World) (hs:Slc 5 RTy w A c ts) (ht:Slc 1 RInt w B d t.flds):
 Calls Tryz.prog 148 #[.slice A ts.length c,tyAgg t B d] w fun e' w'=>findP (decide (t∈ts)) e'/\Below w.heap.size w w':=by
 have hb0:Below w.heap.size w (w.alloc (.cells #[.int .i64 t.kind,.bool t.mu,.int .i64 t.reg,.int .i64 t.elem,.slice B t.flds.length d] 81)):=(aX _ _).alloc (aY _) _
 have HI:=aF (sP ts t A c w.heap.size _ (hs.keep RTy.keeps hb0) (by simp) (show RTy _ _ w.heap.size 0 t from by
  have h:∀i v,#[Value.int .i64 t.kind,.bool t.mu,.int .i64 t.reg,.int .i64 t.elem,.slice B t.flds.length d][i]?=some v->(w.alloc (.cells #[.int .i64 t.kind,.bool t.mu,.int .i64 t.reg,.int .i64 t.elem,.slice B t.flds.length d] 81)).cell? ⟨w.heap.size,i,none⟩=some v:=fun i v hi=>by
   rw [World.cell?_alloc_at _ _ _ _ (by simp)];exact hi
  exact ⟨h 0 _ rfl,h 1 _ rfl,h 2 _ rfl,h 3 _ rfl,B,d,h 4 _ rfl,ht.le,ht.big,(ht.sl.keep RInt.keeps hb0.size hb0)⟩))
 have hx:=gR (eqT t) ts 0;rw [yV] at hx;rw [<- hx];clear hs ht hx;generalize idxF (eqT t) 0 ts=i at HI ⊢;unfold tyAgg;have HB:=aF hb0;clear hb0;go_enter Tryz.func148,Tryz.ntmps148
 go_wp2_with (go_at_call 182;refine HI.out.mono ?_;rintro e' w1 ⟨rfl,hb1⟩)
 all_goals
  go_ret2
  exact ⟨⟨_,rfl⟩,HB.out.trans (hb1.mono HB.out.size)⟩
structure Stp2 (row:Option Nat) (g:Nat) (w w':World):Prop where
 os:w'.os=w.os
 tape:w'.tape=w.tape
 output:w'.output=w.output
 size:w.heap.size<=w'.heap.size
 block:∀k,k<w.heap.size->k≠g->some k≠row->w'.heap[k]?=w.heap[k]?
theorem Stp2.of_below {row:Option Nat} {g:Nat} {w w':World} (h:Below w.heap.size w w'):Stp2 row g w w':=⟨h.os,h.tape,h.output,h.size,fun k hk _ _=>h.block k hk⟩
theorem Stp2.below {row:Option Nat} {g B:Nat} {a b:World} (h:Stp2 row g a b) (hg:B<=g) (hr:∀k,row=some k->B<=k) (hB:B<=a.heap.size):Below B a b:=
 ⟨h.os,h.tape,h.output,h.size,fun k hk=>h.block k (by omega) (by omega) (fun e=>by have:=hr k e.symm;omega)⟩
theorem Stp2.set {row:Option Nat} {g:Nat} {a b:World} (h:Stp2 row g a b) (o:Nat) (v:Value):Stp2 row g a (b.setCell ⟨g,o,none⟩ v):=
 ⟨h.os,h.tape,h.output,by simpa [World.setCell] using h.size,fun k hk hg hr=>(bH b ⟨g,o,none⟩ v k hg).trans (h.block k hk hg hr)⟩
theorem Stp2.grown {g:Nat} {a b c:World} {row:Option Nat} (h:Below a.heap.size a b) (hg:b.grownBy c row):Stp2 row g a c:=
 ⟨hg.os.trans h.os,hg.tape.trans h.tape,hg.output.trans h.output,bZ h.size hg.size,fun k hk _ hr=>(hg.block k (bO hk h.size) hr).trans (h.block k hk)⟩
theorem rQ {w:World} {k:Nat} {a b:Value} {t:TypeId} (x:Value) (h:w.heap[k]?=some (.cells #[a,b] t)):(w.setCell ⟨k,1,none⟩ x).heap[k]?=some (.cells #[a,x] t):=by
 simp [World.setCell,Array.getElem?_modify,h]
theorem dO {w:World} {k:Nat} {a b:Value} {t:TypeId} (h:w.heap[k]?=some (.cells #[a,b] t)):w.cell? ⟨k,0,none⟩=some a/\w.cell? ⟨k,1,none⟩=some b/\w.frozen? ⟨k,0,none⟩=false/\w.frozen? ⟨k,1,none⟩=false:=by
 simp [World.cell?,World.frozen?,h]
def addE (d:List Int) (n:Int) (t:Ty):Int × Int:=
 if t.kind<0\/4<t.kind then (14,0)
 else if (t.kind≠3/\(t.mu=true\/t.reg≠0\/t.elem≠0))\/(t.kind≠4/\0<t.flds.length) then (2,0)
 else if t.kind=3/\(t.reg<0\/n<=t.reg) then (3,0)
 else match depF d 0 (if t.kind=3 then [t.elem] else t.flds) with
  | none=>(3,0)
  | some k=>
    if t.kind=4/\(t.flds.length=0\/65535<t.flds.length) then (15,0)
    else if 32<=k then (19,0)
    else (0,k+1)
theorem wY (prev:List Ty) (d:List Int) (n:Int) (t:Ty):tyE prev d n t=if (addE d n t).1=0/\t∈prev then (21,0) else addE d n t:=by
 unfold tyE addE;generalize depF d 0 (if t.kind=3 then [t.elem] else t.flds)=o;split
 ·simp
 split
 ·simp
 split
 ·simp
 cases o with
 | none=>simp
 | some k=>
   simp only;split
   ·simp
   split
   ·simp
   split
   ·rw [bA (by simpa)]
   ·rw [aZ (by simpa)]
def addP (base g:Nat) (row:Option Nat) (n:Int) (ds:List Int) (r:Int × Int) (w:World) (e':Ending) (w':World):Prop:=
 e' = .returned (.int .i64 r.1)/\Stp2 row g w w'/\(r.1=0->∃v',w'.heap[g]?=some (.cells #[.int .i64 n,v'] 203)/\w'.ownsRow base 3 1 v' (ds ++ [r.2]).length ((ds ++ [r.2]).map (Value.int .i64)))
theorem eJ {base g:Nat} {row:Option Nat} {n:Int} {ds:List Int} {q:Int} {w:World} {w':World} (h:Stp2 row g w w') (hq:q≠0):addP base g row n ds (q,0) w (.returned (.int .i64 q)) w':=⟨rfl,h,fun h=>absurd h hq⟩
theorem wD (ds:List Int) (n:Int) (t:Ty) (g base:Nat) (v:Value) (A:Option Addr) (c:Nat) (w:World) (_hg:w.heap[g]?=some (.cells #[.int .i64 n,v] 203)) (_hown:w.ownsRow base 3 1 v ds.length (ds.map (Value.int .i64))) (_hgb:g<base) (hb:base<=w.heap.size) (_hl:ds.length<=65535) (_ht:Slc 1 RInt w A c t.flds) (hbad:t.kind<0\/4<t.kind):
 Calls Tryz.prog 147 #[.pointer (some ⟨g,0,none⟩),tyAgg t A c] w fun e' w'=>addP base g v.ownBlock n ds (addE ds n t) w e' w':=by
 have HF:Hid (addE ds n t=(14,0)):=aF (by unfold addE;rw [bA hbad]);have e0:(t.kind == 0)=false:=by simp;omega
 have e1:(t.kind == 1)=false:=by simp;omega
 have e2:(t.kind == 2)=false:=by simp;omega
 have e3:(t.kind == 3)=false:=by simp;omega
 have e4:(t.kind == 4)=false:=by simp;omega
 have HB:=aF hb;rw [HF.out];clear _hg _hown _ht hbad;unfold tyAgg;go_enter Tryz.func147,Tryz.ntmps147
 go_wp2_with fail
 go_ret;exact eJ (Stp2.of_below ((aX _ _).alloc (aY _) _)) (by omega)
theorem wE (ds:List Int) (n:Int) (t:Ty) (g base:Nat) (v:Value) (A:Option Addr) (c:Nat) (w:World) (_hg:w.heap[g]?=some (.cells #[.int .i64 n,v] 203)) (_hown:w.ownsRow base 3 1 v ds.length (ds.map (Value.int .i64))) (_hgb:g<base) (hb:base<=w.heap.size) (_hl:ds.length<=65535) (_ht:Slc 1 RInt w A c t.flds) (hk0:0<=t.kind) (hk4:t.kind<=4) (hbad:(t.kind≠3/\(t.mu=true\/t.reg≠0\/t.elem≠0))\/(t.kind≠4/\0<t.flds.length)):
 Calls Tryz.prog 147 #[.pointer (some ⟨g,0,none⟩),tyAgg t A c] w fun e' w'=>addP base g v.ownBlock n ds (addE ds n t) w e' w':=by
 have HF:Hid (addE ds n t=(2,0)):=aF (by unfold addE;rw [aZ (by omega),bA hbad]);have HB:=aF hb;rw [HF.out];clear _hown _ht _hg;unfold tyAgg;obtain ⟨k,mu,rg,el,fl⟩:=t;simp only at *;rcases (show k=0\/k=1\/k=2\/k=3\/k=4 by omega) with rfl | rfl | rfl | rfl | rfl
 all_goals
  go_enter Tryz.func147,Tryz.ntmps147
  go_wp2_with fail
  all_goals first
   | (go_ret;exact eJ (Stp2.of_below ((aX _ _).alloc (aY _) _)) (by omega))
   | (exfalso;clear HF HB;grind)
theorem fB {ds l:List Int} {o:Option Int} (h:depF ds 0 l=o):depP ds l=depQ o:=by unfold depP;rw [h]
structure Shape (n:Int) (t:Ty):Prop where
 k0:0<=t.kind
 k4:t.kind<=4
 plain:t.kind≠3->t.mu=false/\t.reg=0/\t.elem=0
 flat:t.kind≠4->t.flds=[]
 reg:t.kind=3->0<=t.reg/\t.reg<n
theorem yW (ds:List Int) (n:Int) (t:Ty) (g base:Nat) (v:Value) (A:Option Addr) (c:Nat) (w:World) (hg:w.heap[g]?=some (.cells #[.int .i64 n,v] 203)) (_hown:w.ownsRow base 3 1 v ds.length (ds.map (Value.int .i64))) (hgb:g<base) (hb:base<=w.heap.size) (_hl:ds.length<=65535) (_ht:Slc 1 RInt w A c t.flds) (hk:t.kind=3) (hf:t.flds=[]) (hbad:t.reg<0\/n<=t.reg):
 Calls Tryz.prog 147 #[.pointer (some ⟨g,0,none⟩),tyAgg t A c] w fun e' w'=>addP base g v.ownBlock n ds (addE ds n t) w e' w':=by
 have HF:Hid (addE ds n t=(3,0)):=aF (by unfold addE;rw [aZ (by omega),aZ (by simp [hk,hf]),bA ⟨hk,hbad⟩]);have HB:=aF hb;obtain ⟨x0,x1,f0,f1⟩:=dO hg;rw [HF.out];clear _hown _ht hg;unfold tyAgg;obtain ⟨k,mu,rg,el,fl⟩:=t;simp only at *;subst hk hf;simp only [bP];have HBD:Hid (∀m,Below w.heap.size w ((w.alloc (.cells #[.int .i64 3,.bool mu,.int .i64 rg,.int .i64 el,.slice A 0 c] 81)).drewN m)):=aF (fun m=>aG ((aX _ _).alloc (aY _) _) _);by_cases hr:rg<0
 ·have e1:decide (rg<0)=true:=by simp [hr]
  go_enter Tryz.func147,Tryz.ntmps147
  go_wp2_with fail
  go_quiet (fail)
  go_wp2_with fail
  go_ret;exact eJ (Stp2.of_below (HBD.out _)) (by omega)
 ·have e1:decide (rg<0)=false:=by simp;omega
  have e2:n<=rg:=by omega
  have hge:g<w.heap.size:=by omega
  go_enter Tryz.func147,Tryz.ntmps147
  go_wp2_with fail
  go_quiet (fail)
  go_wp2_with fail
  go_ret;exact eJ (Stp2.of_below (HBD.out _)) (by omega)
end
section
open Go Go.RowKit
section
variable {P:Program} {ops:Array Oper} {Q:Exit->Act->World->Prop} {S:World->Prop}
def pairO (ops:Array Oper) (ord ord':List Nat) (k:Nat):Bool:=
 decide (k+1<ops.size) && decide (ord.getD k 0<ops.size) && decide (ord.getD (k+1) 0<ops.size) && decide (ord'.getD k 0=ord.getD (k+1) 0) && decide (ord'.getD (k+1) 0=ord.getD k 0) &&
  decide (Region.ready .any ops (lstO ops.size ord k)=[ord.getD k 0,ord.getD (k+1) 0]) && decide (Region.ready .any ops (lstO ops.size ord (k+1))=[ord.getD (k+1) 0]) && decide (Region.ready .any ops (lstO ops.size ord' (k+1))=[ord.getD k 0]) &&
  decide ((lstO ops.size ord k).setIfInBounds (ord.getD k 0) true=lstO ops.size ord (k+1)) && decide ((lstO ops.size ord k).setIfInBounds (ord.getD (k+1) 0) true=lstO ops.size ord' (k+1)) &&
  decide ((lstO ops.size ord (k+1)).setIfInBounds (ord.getD (k+1) 0) true=lstO ops.size ord (k+2)) && decide ((lstO ops.size ord' (k+1)).setIfInBounds (ord.getD k 0) true=lstO ops.size ord (k+2))
theorem fW {t:Nat} {ord:List Nat} {k:Nat} {a:Act} {w:World} (ord':List Nat) (z:Obj) (hok:pairO ops ord ord' k=true)
 (hi:∀(a:Act) (w:World) (K:Act->World->Prop),K (a.put ((ops[ord.getD k 0]?).getD default).dst (.pointer (some ⟨w.heap.size,0,none⟩))) (w.alloc z)->if Region.wanted ((ops[ord.getD k 0]?).getD default) (yielded ops a.tmps)=true then Oper.wp P ((ops[ord.getD k 0]?).getD default) a w K Q else K (a.put ((ops[ord.getD k 0]?).getD default).dst undef) w)
 (hj:∀(a:Act) (w:World) (K:Act->World->Prop),K (a.put ((ops[ord.getD (k+1) 0]?).getD default).dst (.pointer (some ⟨w.heap.size,0,none⟩))) (w.alloc z)->if Region.wanted ((ops[ord.getD (k+1) 0]?).getD default) (yielded ops a.tmps)=true then Oper.wp P ((ops[ord.getD (k+1) 0]?).getD default) a w K Q else K (a.put ((ops[ord.getD (k+1) 0]?).getD default).dst undef) w)
 (hcomm:∀x y,(a.put ((ops[ord.getD (k+1) 0]?).getD default).dst x).put ((ops[ord.getD k 0]?).getD default).dst y=(a.put ((ops[ord.getD k 0]?).getD default).dst y).put ((ops[ord.getD (k+1) 0]?).getD default).dst x)
 (hS1:S (w.alloc z)) (hS2:S ((w.alloc z).alloc z))
 (h:∀ga gb:Nat,(ga=w.heap.size/\gb=w.heap.size+1)\/(ga=w.heap.size+1/\gb=w.heap.size)->wpO P ops Q S t ord (k+2) ((a.put ((ops[ord.getD k 0]?).getD default).dst (.pointer (some ⟨ga,0,none⟩))).put ((ops[ord.getD (k+1) 0]?).getD default).dst (.pointer (some ⟨gb,0,none⟩))) ((w.alloc z).alloc z)):
 wpO P ops Q S t ord k a w:=by
 simp only [pairO,bQ,decide_eq_true_eq] at hok;obtain ⟨⟨⟨⟨⟨⟨⟨⟨⟨⟨⟨h0,h1⟩,h2⟩,-⟩,-⟩,r0⟩,r1⟩,r2⟩,l1⟩,l2⟩,l3⟩,l4⟩:=hok;have hoi:ops[ord.getD k 0]?=some ((ops[ord.getD k 0]?).getD default):=by rw [Array.getElem?_eq_getElem h1];rfl
 have hoj:ops[ord.getD (k+1) 0]?=some ((ops[ord.getD (k+1) 0]?).getD default):=by rw [Array.getElem?_eq_getElem h2];rfl
 unfold wpO at h ⊢;rw [show ops.size - k=(ops.size - (k+2))+1+1 by omega];refine ⟨fun h=>(by rw [r0] at h;cases h),fun i hmem=>?_⟩;rw [r0,List.mem_cons,bS] at hmem;rcases hmem with rfl | rfl
 ·refine wpOp_step hoi (fun K' hK=>hi _ _ K' (hK _ _ ⟨fun _=>hS1,?_⟩));rw [l1];refine dV r1 hoj (fun K2 hK2=>hj _ _ K2 (hK2 _ _ (fun _=>hS2) ?_));rw [l3];have:=h w.heap.size (w.heap.size+1) (Or.inl ⟨rfl,rfl⟩);rwa [bI]
 ·refine wpOp_step hoj (fun K' hK=>hj _ _ K' (hK _ _ ⟨fun _=>hS1,?_⟩));rw [l2];refine dV r2 hoi (fun K2 hK2=>hi _ _ K2 (hK2 _ _ (fun _=>hS2) ?_));rw [l4,hcomm];have:=h (w.heap.size+1) w.heap.size (Or.inr ⟨rfl,rfl⟩);rwa [bI]
end
theorem dF {B b:Nat} {w0:World} (hb:B<=b):∀(vs:List Value) (o:Nat) (w:World),Below B w0 w->Below B w0 (w.setCells b o vs)
 | [],_,_,h=>h
 | _ :: vs,o,_,h=>dF hb vs (o+1) _ (h.setCell (by simp;omega) _)
theorem dD (w:World) (cs:Array Value) (t:TypeId) (k n:Nat) (hk:k=w.heap.size) (hn:n<=cs.size):(w.alloc (.cells cs t)).there k 0 n:=fun j hj=>by
 subst hk;constructor
 ·rw [World.cell?_alloc_at _ _ _ _ (by simp)];simp;omega
 ·have:(w.alloc (.cells cs t)).heap[w.heap.size]?=some (.cells cs t):=Array.getElem?_push_size;unfold World.frozen?;simp only [this];simp
end
end Go.Proofs.YtmknfbfppmkcfaaGreatDoor
